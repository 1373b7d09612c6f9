/- The walk of the program's Formed. -/
import Derived.Test.YtdbdmpdfjhmfhaaIW1b
namespace Go.Proofs.Ytdbdmpdfjhmfhaa
open Go.RowKit Go.Proofs.Lx

theorem within_yes (n a b : Int) (w : World) (h : a ≤ n ∧ n ≤ b) : Calls Try.prog 29 #[.int .i64 n, .int .i64 a, .int .i64 b] w fun e w' => e = .returned (.bool true) ∧ w = w' := by
  obtain ⟨h1, h2⟩ := h
  go_enter Try.func29, Try.ntmps29
  go_wp2_with fail
  go_ret
  exact ⟨ret_bool (by first | rfl | (simp; omega)), rfl⟩
theorem within_no (n a b : Int) (w : World) (h : ¬ (a ≤ n ∧ n ≤ b)) : Calls Try.prog 29 #[.int .i64 n, .int .i64 a, .int .i64 b] w fun e w' => e = .returned (.bool false) ∧ w = w' := by
  have h' : n < a ∨ (a ≤ n ∧ b < n) := by omega
  rcases h' with h' | ⟨h', h''⟩
  all_goals
    clear h
    go_enter Try.func29, Try.ntmps29
    go_wp2_with fail
    go_ret
    exact ⟨ret_bool (by first | rfl | (simp; omega)), rfl⟩

theorem bad_cases {f size : Int} {x : En} (hf : 0 ≤ f) (h : EnBad f size x) :
    (x.frm < f) ∨ (f ≤ x.frm ∧ x.to < x.frm) ∨ (f ≤ x.frm ∧ x.frm ≤ x.to ∧ size < x.to) ∨ (f ≤ x.frm ∧ x.frm ≤ x.to ∧ x.to ≤ size ∧ ¬ (1 ≤ x.ver ∧ x.ver ≤ 4)) ∨
    (f ≤ x.frm ∧ x.frm ≤ x.to ∧ x.to ≤ size ∧ (1 ≤ x.ver ∧ x.ver ≤ 4) ∧ ¬ (0 ≤ x.at_ ∧ x.at_ ≤ 65536)) ∨
    (f ≤ x.frm ∧ x.frm ≤ x.to ∧ x.to ≤ size ∧ (1 ≤ x.ver ∧ x.ver ≤ 4) ∧ (0 ≤ x.at_ ∧ x.at_ ≤ 65536) ∧ 1048576 < (x.bytes.size : Int)) ∨
    (f ≤ x.frm ∧ x.frm ≤ x.to ∧ x.to ≤ size ∧ (1 ≤ x.ver ∧ x.ver ≤ 4) ∧ (0 ≤ x.at_ ∧ x.at_ ≤ 65536) ∧ (x.bytes.size : Int) ≤ 1048576 ∧ 0 < x.bytes.size ∧ x.ver ≠ 1) := by
  unfold EnBad at h; omega

theorem below2 (w : World) (a b : Obj) : Below w.heap.size w ((w.alloc a).alloc b) := ((Below.refl _ _).alloc (Nat.le_refl _) _).alloc (by simp) _
theorem isEmpty_size (s : ByteArray) : s.toList.isEmpty = decide (s.size = 0) := by
  rw [Lib.toList_data, Lib.size_eq]
  cases s.data.toList <;> simp

set_option maxRecDepth 100000 in
set_option maxHeartbeats 4000000 in
theorem formed_any (deep size : Int) (a : Option Addr) (len cap : Nat) (L : List En) (w : World) (R : Bool) (hR : Hid (R = true ↔ FormedT deep size L)) (hE : Ents w a len L) :
    Calls Try.prog 17 #[.agg #[.int .i64 deep, .int .i64 size, .slice a len cap]] w fun e w' => e = .returned (.bool R) ∧ Below w.heap.size w w' := by
  have hlen := hE.2.1
  have hll : Hid (L.length = len) := Lib.hid hE.1
  have HT := Lib.hid (TB.start (deep := deep) (size := size) (cap := cap) hE)
  clear hE
  by_cases hhead : (1 ≤ deep ∧ deep ≤ 4096) ∧ (0 ≤ size ∧ size ≤ 1048576) ∧ len ≤ 4096
  · obtain ⟨hd, hs, hl⟩ := hhead
    have hRG : Hid (R = true ↔ FormedGo 0 size L) := Lib.hid (by
      rw [hR.out]; unfold FormedT; rw [hll.out]
      exact ⟨fun h => h.2.2.2, fun h => ⟨hd, hs, hl, h⟩⟩)
    have hl' : decide (4096 < (len : Int)) = false := by rw [decide_eq_false_iff_not]; omega
    go_enter Try.func17, Try.ntmps17
    go_wp2_with (go_at_call 29; refine (within_yes _ _ _ _ (by omega)).mono ?_; rintro e w' ⟨rfl, rfl⟩)
    go_loopg [3, 26] len (fun g v3 v wr => ∃ (k : Nat) (f : Int), k ≤ len ∧ g = len - k ∧ v = .int .i64 k ∧ v3 = .int .i64 f ∧ 0 ≤ f ∧ Hid (f = prevTo L k) ∧ Hid (R = true ↔ FormedGo (prevTo L k) size (L.drop k)) ∧ Hid (TB w wr deep size a len cap L))
    case atStart => exact ⟨0, 0, Nat.zero_le _, rfl, rfl, rfl, by omega, Lib.hid rfl, hRG, HT⟩
    case round =>
      clear HT hRG
      obtain ⟨k, f, hk, rfl, rfl, rfl, hf0, HF, hG, HT⟩ := hrel
      obtain ⟨c0, c1, c2, cs, hE, hBel⟩ := HT.out
      have hE' := Lib.hid hE
      have hB' := Lib.hid hBel
      clear hE hBel
      by_cases hlt : k < len
      · have hdk : decide ((k : Int) < (len : Int)) = true := by rw [decide_eq_true_eq]; omega
        obtain ⟨b, off, rfl, hb, hx⟩ := hE'.out.2.2 (by omega)
        obtain ⟨x, hxk⟩ : ∃ x, L[k]? = some x := ⟨_, List.getElem?_eq_getElem (by rw [hll.out]; exact hlt)⟩
        obtain ⟨q0, q1, q2, q3, q4⟩ := hx k x hxk
        have HK := Lib.hid hxk
        clear hx hxk
        by_cases hbad : EnBad f size x
        · have hRf := Lib.hid (close_bad hG HF.out HK.out hbad)
          have hc := bad_cases hf0 hbad
          clear hbad
          rcases hc with z1 | ⟨z1, z2⟩ | ⟨z1, z2, z3⟩ | ⟨z1, z2, z3, z4⟩ | ⟨z1, z2, z3, z4, z5⟩ | ⟨z1, z2, z3, z4, z5, z6⟩ | ⟨z1, z2, z3, z4, z5, z6, z7, z8⟩
          · go_wp2_with fail
            go_ret
            exact ⟨ret_bool hRf.out.symm, hB'.out.trans ((below2 wr _ _).mono (Nat.le_of_lt cs))⟩
          · go_wp2_with fail
            go_ret
            exact ⟨ret_bool hRf.out.symm, hB'.out.trans ((below2 wr _ _).mono (Nat.le_of_lt cs))⟩
          · go_wp2_with fail
            go_ret
            exact ⟨ret_bool hRf.out.symm, hB'.out.trans ((below2 wr _ _).mono (Nat.le_of_lt cs))⟩
          · go_wp2_with (go_at_call 29; first | (refine (within_yes _ _ _ _ (by assumption)).mono ?_; rintro e w' ⟨rfl, rfl⟩) | (refine (within_no _ _ _ _ (by assumption)).mono ?_; rintro e w' ⟨rfl, rfl⟩))
            go_ret
            exact ⟨ret_bool hRf.out.symm, hB'.out.trans ((below2 wr _ _).mono (Nat.le_of_lt cs))⟩
          · go_wp2_with (go_at_call 29; first | (refine (within_yes _ _ _ _ (by assumption)).mono ?_; rintro e w' ⟨rfl, rfl⟩) | (refine (within_no _ _ _ _ (by assumption)).mono ?_; rintro e w' ⟨rfl, rfl⟩))
            go_ret
            exact ⟨ret_bool hRf.out.symm, hB'.out.trans ((below2 wr _ _).mono (Nat.le_of_lt cs))⟩
          · go_wp2_with (go_at_call 29; first | (refine (within_yes _ _ _ _ (by assumption)).mono ?_; rintro e w' ⟨rfl, rfl⟩) | (refine (within_no _ _ _ _ (by assumption)).mono ?_; rintro e w' ⟨rfl, rfl⟩))
            go_ret
            exact ⟨ret_bool hRf.out.symm, hB'.out.trans ((below2 wr _ _).mono (Nat.le_of_lt cs))⟩
          · have hv : (x.ver != 1) = true := by rw [bne_iff_ne]; exact z8
            have hem : x.bytes.toList.isEmpty = false := by rw [isEmpty_size, decide_eq_false_iff_not]; omega
            clear z8
            go_wp2_with (go_at_call 29; first | (refine (within_yes _ _ _ _ (by assumption)).mono ?_; rintro e w' ⟨rfl, rfl⟩) | (refine (within_no _ _ _ _ (by assumption)).mono ?_; rintro e w' ⟨rfl, rfl⟩))
            go_ret
            exact ⟨ret_bool hRf.out.symm, hB'.out.trans ((below2 wr _ _).mono (Nat.le_of_lt cs))⟩
        · have HOk := Lib.hid hbad
          obtain ⟨z1, z2, z3, z4, z5, z6, z7, z8, z9, z10⟩ := not_bad hbad
          have y1 : 1 ≤ x.ver ∧ x.ver ≤ 4 := ⟨z5, z6⟩
          have y2 : 0 ≤ x.at_ ∧ x.at_ ≤ 65536 := ⟨z7, z8⟩
          clear hbad z5 z6 z7 z8
          have hf1 : Hid (x.to = prevTo L (k + 1)) := Lib.hid (prevTo_succ L k x HK.out).symm
          by_cases hv1 : x.ver = 1
          · have hv : (x.ver != 1) = false := by rw [bne_eq_false_iff_eq]; exact hv1
            clear hv1 z10
            go_wp2_with (go_at_call 29; first | (refine (within_yes _ _ _ _ (by assumption)).mono ?_; rintro e w' ⟨rfl, rfl⟩) | (refine (within_no _ _ _ _ (by assumption)).mono ?_; rintro e w' ⟨rfl, rfl⟩))
            go_roundg (len - (k + 1))
            case measure => go_light; omega
            case rel =>
              go_light
              exact ⟨k + 1, x.to, by omega, rfl, by go_num, rfl, by omega, hf1, close_ok hG HF.out HK.out HOk.out, Lib.hid (HT.out.next (below2 wr _ _))⟩
          · have hv : (x.ver != 1) = true := by rw [bne_iff_ne]; exact hv1
            have hem : x.bytes.toList.isEmpty = true := by rw [isEmpty_size, decide_eq_true_eq]; omega
            clear hv1 z10
            go_wp2_with (go_at_call 29; first | (refine (within_yes _ _ _ _ (by assumption)).mono ?_; rintro e w' ⟨rfl, rfl⟩) | (refine (within_no _ _ _ _ (by assumption)).mono ?_; rintro e w' ⟨rfl, rfl⟩))
            go_roundg (len - (k + 1))
            case measure => go_light; omega
            case rel =>
              go_light
              exact ⟨k + 1, x.to, by omega, rfl, by go_num, rfl, by omega, hf1, close_ok hG HF.out HK.out HOk.out, Lib.hid (HT.out.next (below2 wr _ _))⟩
      · go_wp2_with fail
        go_ret
        have : R = true := hG.out.2 (by rw [List.drop_of_length_le (by rw [hll.out]; omega)]; trivial)
        exact ⟨ret_bool this.symm, hB'.out⟩
  · have hRf : Hid (false = R) := Lib.hid (b_false hR (fun h => hhead ⟨h.1, h.2.1, by have := h.2.2.1; have := hll.out; omega⟩)).symm
    have hcs : ¬ (1 ≤ deep ∧ deep ≤ 4096) ∨ ((1 ≤ deep ∧ deep ≤ 4096) ∧ ¬ (0 ≤ size ∧ size ≤ 1048576)) ∨ ((1 ≤ deep ∧ deep ≤ 4096) ∧ (0 ≤ size ∧ size ≤ 1048576) ∧ 4096 < len) := by omega
    clear hhead
    rcases hcs with h | ⟨h, h'⟩ | ⟨h, h', h2⟩
    all_goals
      go_enter Try.func17, Try.ntmps17
      go_wp2_with (go_at_call 29; first | (refine (within_yes _ _ _ _ (by assumption)).mono ?_; rintro e w' ⟨rfl, rfl⟩) | (refine (within_no _ _ _ _ (by assumption)).mono ?_; rintro e w' ⟨rfl, rfl⟩))
      go_ret
      exact ⟨ret_bool hRf.out, below1 _ _⟩
end Go.Proofs.Ytdbdmpdfjhmfhaa
