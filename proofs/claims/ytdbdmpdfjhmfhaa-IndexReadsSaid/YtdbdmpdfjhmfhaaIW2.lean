/- The walk of the reference's Formed. -/
import Derived.Test.YtdbdmpdfjhmfhaaIW1b
namespace Go.Proofs.Ytdbdmpdfjhmfhaa
open Go.RowKit Go.Proofs.Lx

set_option maxRecDepth 100000 in
set_option maxHeartbeats 4000000 in
theorem rformed_any (deep size : Int) (a : Option Addr) (len cap : Nat) (L : List En) (w : World) (R : Bool) (hR : Hid (R = true ↔ FormedT deep size L)) (hE : Ents w a len L) :
    Calls Try.prog 9 #[.agg #[.int .i64 deep, .int .i64 size, .slice a len cap]] w fun e w' => e = .returned (.bool R) ∧ Below w.heap.size w w' := by
  have hlen := hE.2.1
  have hll : Hid (L.length = len) := Lib.hid hE.1
  have HT := Lib.hid (TB.start (deep := deep) (size := size) (cap := cap) hE)
  clear hE
  by_cases hhead : (1 ≤ deep ∧ deep ≤ 4096) ∧ (0 ≤ size ∧ size ≤ 1048576) ∧ len ≤ 4096
  · obtain ⟨⟨hd1, hd2⟩, ⟨hs1, hs2⟩, hl⟩ := hhead
    have hRG : Hid (R = true ↔ FormedGo 0 size L) := Lib.hid (by
      rw [hR.out]; unfold FormedT; rw [hll.out]
      exact ⟨fun h => h.2.2.2, fun h => ⟨⟨hd1, hd2⟩, ⟨hs1, hs2⟩, hl, h⟩⟩)
    go_enter Try.func9, Try.ntmps9
    go_wp2_with fail
    go_loopg [3] len (fun g v wr => ∃ k : Nat, k ≤ len ∧ g = len - k ∧ v = .int .i64 k ∧ Hid (R = true ↔ FormedGo (prevTo L k) size (L.drop k)) ∧ Hid (TB w wr deep size a len cap L))
    case atStart => exact ⟨0, Nat.zero_le _, rfl, rfl, hRG, HT⟩
    case round =>
      clear HT hRG
      obtain ⟨k, hk, rfl, rfl, hG, HT⟩ := hrel
      obtain ⟨c0, c1, c2, cs, hE, hBel⟩ := HT.out
      have hE' := Lib.hid hE
      have hB' := Lib.hid hBel
      clear hE hBel
      by_cases hlt : k < len
      · have hdk : decide ((k : Int) < (len : Int)) = true := by rw [decide_eq_true_eq]; omega
        obtain ⟨b, off, rfl, hb, hx⟩ := hE'.out.2.2 (by omega)
        obtain ⟨x, hxk⟩ : ∃ x, L[k]? = some x := ⟨_, List.getElem?_eq_getElem (by rw [hll.out]; exact hlt)⟩
        obtain ⟨q0, q1, q2, q3, q4⟩ := hx k x hxk
        have HK := Lib.hid hxk
        obtain ⟨f, hf⟩ : ∃ f, f = prevTo L k := ⟨_, rfl⟩
        have hpre : ¬ 0 < k ∧ f = 0 ∨ 0 < k ∧ wr.cell? ⟨b, off + (k - 1) * 5 + 1, none⟩ = some (.int .i64 f) := by
          by_cases hk0 : k = 0
          · exact .inl ⟨by omega, by rw [hf, prevTo, if_pos hk0]⟩
          · obtain ⟨y, hy⟩ : ∃ y, L[k - 1]? = some y := ⟨_, List.getElem?_eq_getElem (by rw [hll.out]; omega)⟩
            exact .inr ⟨by omega, by rw [hf, prevTo, if_neg hk0, hy]; exact (hx (k - 1) y hy).2.1⟩
        have HF := Lib.hid hf
        clear hx hxk hf
        by_cases hbad : EnBad f size x
        · have hRf := Lib.hid (close_bad hG HF.out HK.out hbad)
          have HBad := Lib.hid hbad
          clear hbad
          rcases hpre with ⟨hk0, rfl⟩ | ⟨hk0, hpc⟩
          all_goals
            go_wp2_with fail
            all_goals first
              | (go_ret
                 exact ⟨ret_bool hRf.out.symm, hB'.out.trans ((below1 wr _).mono (Nat.le_of_lt cs))⟩)
              | (exfalso
                 go_light
                 have hb2 := HBad.out
                 unfold EnBad at hb2
                 first | omega | (simp only [bne_eq_false_iff_eq] at *; omega))
        · have HOk := Lib.hid hbad
          obtain ⟨z1, z2, z3, z4, z5, z6, z7, z8, z9, z10⟩ := not_bad hbad
          clear hbad
          have hz : x.bytes.size = 0 ∨ x.ver = 1 := by omega
          rcases hpre with ⟨hk0, rfl⟩ | ⟨hk0, hpc⟩
          all_goals
            rcases hz with hz | hz
            all_goals
              first
                | have hz' : ¬ 0 < x.bytes.size := by omega
                | have hz' : (x.ver != 1) = false := by rw [bne_eq_false_iff_eq]; exact hz
              clear hz z10
              go_wp2_with fail
              all_goals
                go_roundg (len - (k + 1))
                case measure => go_light; omega
                case rel =>
                  go_light
                  exact ⟨k + 1, by omega, rfl, by go_num, close_ok hG HF.out HK.out HOk.out, Lib.hid (HT.out.next (below1 wr _))⟩
      · go_wp2_with fail
        go_ret
        have : R = true := hG.out.2 (by rw [List.drop_of_length_le (by rw [hll.out]; omega)]; trivial)
        exact ⟨ret_bool this.symm, hB'.out⟩
  · have hRf : Hid (false = R) := Lib.hid (b_false hR (fun h => hhead ⟨h.1, h.2.1, by have := h.2.2.1; have := hll.out; omega⟩)).symm
    have hcs : deep < 1 ∨ (1 ≤ deep ∧ 4096 < deep) ∨ (1 ≤ deep ∧ deep ≤ 4096 ∧ size < 0) ∨ (1 ≤ deep ∧ deep ≤ 4096 ∧ 0 ≤ size ∧ 1048576 < size) ∨ (1 ≤ deep ∧ deep ≤ 4096 ∧ 0 ≤ size ∧ size ≤ 1048576 ∧ 4096 < len) := by omega
    clear hhead
    rcases hcs with h | ⟨h, h'⟩ | ⟨h, h', h2⟩ | ⟨h, h', h2, h3⟩ | ⟨h, h', h2, h3, h4⟩
    all_goals
      go_enter Try.func9, Try.ntmps9
      go_wp2_with fail
      go_ret
      exact ⟨ret_bool hRf.out, below1 _ _⟩
end Go.Proofs.Ytdbdmpdfjhmfhaa
