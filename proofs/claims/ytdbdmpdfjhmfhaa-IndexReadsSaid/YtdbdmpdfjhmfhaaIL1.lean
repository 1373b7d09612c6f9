/- The walks of awake and of the law IndexSizes. -/
import Derived.Test.YtdbdmpdfjhmfhaaIW6
import Derived.Test.YtdbdmpdfjhmfhaaIW2
namespace Go.Proofs.Ytdbdmpdfjhmfhaa
open Go.RowKit Go.Proofs.Lx

theorem bthen {w w1 w2 : World} (h : Below w.heap.size w w1) (k : Below w1.heap.size w1 w2) : Below w.heap.size w w2 := h.trans (k.mono h.size)
theorem sum_a : (((sumL [97] : Nat) : Int) == 12638187200555641996) = true := by decide +kernel

theorem sum_awake (w : World) : Calls Try.prog 16 #[.string ⟨#[97]⟩] w fun e w' => e = .returned (.int .u64 (sumL [97] : Nat)) ∧ w = w' := sum_any ⟨#[97]⟩ w (by decide)
theorem formed_awake (w : World) : Calls Try.prog 17 #[.agg #[.int .i64 1, .int .i64 0, .slice none 0 0]] w fun e w' => e = .returned (.bool true) ∧ Below w.heap.size w w' :=
  formed_any 1 0 none 0 0 [] w true (Lib.hid ⟨fun _ => ⟨by omega, by omega, by decide, trivial⟩, fun _ => rfl⟩) ⟨rfl, by omega, fun h => absurd h (Nat.lt_irrefl 0)⟩

theorem awake_any (w : World) :
    Calls Try.prog 7 #[] w fun e w' => e = .returned (.bool true) ∧ Below w.heap.size w w' := by
  have hq := sum_a
  go_enter Try.func7, Try.ntmps7
  go_wp2_with fail
  refine (sum_awake _).mono ?_; rintro e w' ⟨rfl, rfl⟩
  go_wp2_with fail
  refine (formed_awake _).mono ?_; rintro e w1 ⟨rfl, hb⟩
  go_wp2_with fail
  go_ret
  exact ⟨rfl, hb⟩

theorem sizes_name (S : ByteArray) (l : List UInt8) (h : S.data.toList = l) (h8 : l.take 8 = nameL) : ((S.extract 0 8).toList == [108, 97, 99, 101, 119, 111, 114, 107]) = true := by
  rw [beq_iff_eq, Lib.extract_toList, h]; exact h8

theorem write_to (d z : Nat) (a : Option Addr) (len cap : Nat) (L : List En) (w : World) (S : ByteArray) (hS : Hid (⟨(writeB d z L).toArray⟩ = S)) (hF : Hid (FormedT d z L)) (hFew : Hid (FewT L)) (hE : Hid (Ents w a len L)) :
    Calls Try.prog 10 #[.agg #[.int .i64 (d : Int), .int .i64 (z : Int), .slice a len cap]] w fun e w' => e = .returned (.tuple #[.string S, .int .i64 0]) ∧ Below w.heap.size w w' := by
  rw [← hS.out]; exact write_any d z a len cap L w hF hFew hE

set_option maxRecDepth 100000 in
set_option maxHeartbeats 1000000 in
theorem sizes_walk (deep size : Int) (a : Option Addr) (len cap : Nat) (L : List En) (w : World) (hE : Ents w a len L) :
    Calls Try.prog 3 #[.agg #[.int .i64 deep, .int .i64 size, .slice a len cap]] w fun e w' => e = .returned (.bool true) ∧ Below w.heap.size w w' := by
  have HT := Lib.hid (TB.start (deep := deep) (size := size) (cap := cap) hE)
  have hlen := hE.2.1
  have hll := Lib.hid hE.1
  clear hE
  by_cases hFew : FewT L
  · have HF := Lib.hid hFew
    have HRF : Hid (∀ R : Bool, R = true → (R = true ↔ FewT L)) := Lib.hid (fun R h => ⟨fun _ => hFew, fun _ => h⟩)
    clear hFew
    by_cases hFo : FormedT deep size L
    · obtain ⟨d, rfl⟩ := Int.eq_ofNat_of_zero_le (show 0 ≤ deep by have := hFo.1.1; omega)
      obtain ⟨z, rfl⟩ := Int.eq_ofNat_of_zero_le (show 0 ≤ size by have := hFo.2.1.1; omega)
      have HG := Lib.hid hFo
      clear hFo
      have hl12 : len ≤ 12 := by have := HF.out.2; have := hll.out; omega
      go_enter Try.func3, Try.ntmps3
      go_wp2_with fail
      refine (awake_any _).mono ?_; rintro e w1 ⟨rfl, hb1⟩
      have HT1 := Lib.hid (HT.out.next hb1)
      clear hb1
      obtain ⟨c0, c1, c2, _⟩ := HT1.out
      go_wp2_with fail
      refine (few_any _ _ _ _ _ L _ true (Lib.hid (HRF.out true rfl)) HT1.out.2.2.2.2.1).mono ?_; rintro e w2 ⟨rfl, hb2⟩
      have HT2 := Lib.hid (HT1.out.next hb2)
      clear hb2 c0 c1 c2
      obtain ⟨c0, c1, c2, _⟩ := HT2.out
      go_wp2_with fail
      refine (rformed_any _ _ _ _ _ L _ true (Lib.hid ⟨fun _ => HG.out, fun _ => rfl⟩) HT2.out.2.2.2.2.1).mono ?_; rintro e w3 ⟨rfl, hb3⟩
      have HT3 := Lib.hid (HT2.out.next hb3)
      clear hb3 c0 c1 c2 HT HT1 HT2
      obtain ⟨c0, c1, c2, _⟩ := HT3.out
      go_wp2_with fail
      go_loop [3, 4] (fun v3 v4 => ∃ k m : Nat, k ≤ len ∧ v3 = .int .i64 m ∧ v4 = .int .i64 k ∧ m ≤ 10000 ∧ Hid (m = 40 + lens (L.take k))) (fun _ i => len - (intOf i).toNat)
      case atStart => exact ⟨0, 40, Nat.zero_le _, rfl, rfl, by omega, Lib.hid rfl⟩
      case round =>
        obtain ⟨k, m, hk, rfl, rfl, hm, hM⟩ := hrel
        by_cases hlt : k < len
        · have hdk : decide ((k : Int) < (len : Int)) = true := by rw [decide_eq_true_eq]; omega
          obtain ⟨b, off, rfl, hb, hx⟩ := HT3.out.2.2.2.2.1.2.2 (by omega)
          obtain ⟨x, hxk⟩ : ∃ x, L[k]? = some x := ⟨_, List.getElem?_eq_getElem (by rw [hll.out]; exact hlt)⟩
          obtain ⟨q0, q1, q2, q3, q4⟩ := hx k x hxk
          have hM2 : Hid (m + (33 + x.bytes.size) = 40 + lens (L.take (k + 1))) := Lib.hid (by rw [lens_snoc L k x hxk, hM.out]; omega)
          have hM3 : m + (33 + x.bytes.size) ≤ 10000 := by
            have h1 := lens_few L HF.out (k + 1)
            have h2 := hM2.out
            omega
          have h200 : x.bytes.size ≤ 200 := HF.out.1 k x (by omega) hxk
          clear hx hxk q0 q1 q2 q3
          go_wp2_with fail
          go_round
          case rel => go_light; exact ⟨k + 1, m + (33 + x.bytes.size), by omega, by simp, by go_num, hM3, hM2⟩
          case measure => go_light; simp [intOf]; omega
        · have hS : Hid ((⟨(writeB d z L).toArray⟩ : ByteArray).size = m) := Lib.hid (by
            have h1 : (⟨(writeB d z L).toArray⟩ : ByteArray).size = (writeB d z L).length := by simp [ByteArray.size]
            rw [h1, writeB_len, hM.out, List.take_of_length_le (by have := hll.out; omega)])
          have h40 : 40 ≤ m := by have := hM.out; omega
          obtain ⟨S, hSe⟩ : ∃ S : ByteArray, S = ⟨(writeB d z L).toArray⟩ := ⟨_, rfl⟩
          have hname : (((S.extract 0 8).toList == [108, 97, 99, 101, 119, 111, 114, 107])) = true := sizes_name S _ (by rw [hSe]) (writeB_name d z L)
          have hsz : S.size = m := by rw [hSe]; exact hS.out
          have HS := Lib.hid hSe
          clear hSe
          go_wp2_with fail
          refine (write_to d z a len cap L _ S (Lib.hid HS.out.symm) HG HF (Lib.hid HT3.out.2.2.2.2.1)).mono ?_; rintro e w4 ⟨rfl, hb4⟩
          have HB4 := Lib.hid (HT3.out.2.2.2.2.2.trans (hb4.mono (Nat.le_of_lt HT3.out.2.2.2.1)))
          clear hb4
          go_wp2_with fail
          go_ret
          exact ⟨rfl, HB4.out⟩
    · have hno : Hid (false = true ↔ FormedT deep size L) := Lib.hid ⟨fun h => absurd h (by decide), fun h => absurd h hFo⟩
      have hR0 : Hid (∀ R : Bool, R = false → (R = true ↔ FormedT deep size L)) := Lib.hid (fun R h => ⟨fun h' => absurd (h.symm.trans h') (by decide), fun h' => absurd h' hFo⟩)
      clear hFo hno
      go_enter Try.func3, Try.ntmps3
      go_wp2_with fail
      refine (awake_any _).mono ?_; rintro e w1 ⟨rfl, hb1⟩
      have HT1 := Lib.hid (HT.out.next hb1)
      clear hb1
      obtain ⟨c0, c1, c2, _⟩ := HT1.out
      go_wp2_with fail
      refine (few_any _ _ _ _ _ L _ true (Lib.hid (HRF.out true rfl)) HT1.out.2.2.2.2.1).mono ?_; rintro e w2 ⟨rfl, hb2⟩
      have HT2 := Lib.hid (HT1.out.next hb2)
      clear hb2 c0 c1 c2
      obtain ⟨c0, c1, c2, _⟩ := HT2.out
      go_wp2_with fail
      refine (rformed_any _ _ _ _ _ L _ false (Lib.hid (hR0.out false rfl)) HT2.out.2.2.2.2.1).mono ?_; rintro e w3 ⟨rfl, hb3⟩
      have HT3 := Lib.hid (HT2.out.next hb3)
      clear hb3 c0 c1 c2 HT HT1 HT2
      go_wp2_with fail
      refine (awake_any _).mono ?_; rintro e w4 ⟨rfl, hb4⟩
      have HT4 := Lib.hid (HT3.out.next hb4)
      clear hb4
      go_wp2_with fail
      go_ret
      exact ⟨rfl, HT4.out.2.2.2.2.2⟩
  · have hR0 : Hid (∀ R : Bool, R = false → (R = true ↔ FewT L)) := Lib.hid (fun R h => ⟨fun h' => absurd (h.symm.trans h') (by decide), fun h' => absurd h' hFew⟩)
    clear hFew
    go_enter Try.func3, Try.ntmps3
    go_wp2_with fail
    refine (awake_any _).mono ?_; rintro e w1 ⟨rfl, hb1⟩
    have HT1 := Lib.hid (HT.out.next hb1)
    clear hb1
    obtain ⟨c0, c1, c2, _⟩ := HT1.out
    go_wp2_with fail
    refine (few_any _ _ _ _ _ L _ false (Lib.hid (hR0.out false rfl)) HT1.out.2.2.2.2.1).mono ?_; rintro e w2 ⟨rfl, hb2⟩
    have HT2 := Lib.hid (HT1.out.next hb2)
    clear hb2 c0 c1 c2
    go_wp2_with fail
    refine (awake_any _).mono ?_; rintro e w4 ⟨rfl, hb4⟩
    have HT4 := Lib.hid (HT2.out.next hb4)
    clear hb4
    go_wp2_with fail
    go_ret
    exact ⟨rfl, HT4.out.2.2.2.2.2⟩
end Go.Proofs.Ytdbdmpdfjhmfhaa
