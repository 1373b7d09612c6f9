/- The walk of the reference's unit. -/
import Derived.Test.YtlckidgeooiboaaEW3
import Derived.Test.YtlckidgeooiboaaEPlain7
namespace Go.Proofs.Ytlckidgeooiboaa
open Go.RowKit Go.Proofs.Lw Go.Proofs.Le
set_option linter.unusedVariables false
theorem rhex_to (c R : Int) (w : World) (h0 : 0 ≤ c) (h1 : c ≤ 255) (h : Hid (hexP c = R)) :
    Calls Try.prog 42 #[.int .u8 c] w fun e w' => e = .returned (.int .i64 R) ∧ w = w' := by
  rw [← h.out]; exact rhex_any c w h0 h1
theorem drop_two (s : ByteArray) (p : Nat) (h : p + 1 < s.size) : s.data.toList.drop p = s[p] :: s[p + 1] :: s.data.toList.drop (p + 2) := by
  have hl : s.data.toList.length = s.size := (Lib.size_eq s).symm
  rw [List.drop_eq_getElem_cons (by omega), List.drop_eq_getElem_cons (by omega : p + 1 < s.data.toList.length)]
  rfl
theorem low_no (s : ByteArray) (p : Nat) (h : p + 1 < s.size) (hn : s[p] ≠ 92 ∨ s[p + 1] ≠ 117) : lowP (s.data.toList.drop p) = -1 := by
  rw [drop_two s p h, lowP, if_neg]
  intro e
  simp at e
  rcases hn with hn | hn
  · exact hn e.1
  · exact hn e.2
theorem low_yes (s : ByteArray) (p : Nat) (h : p + 6 ≤ s.size) (h1 : s[p] = 92) (h2 : s[p + 1] = 117) : lowP (s.data.toList.drop p) = unitA 0 ((s.data.toList.drop (p + 2)).take 4) := by
  have hl : s.data.toList.length = s.size := (Lib.size_eq s).symm
  rw [drop_two s p (by omega), lowP, h1, h2, if_pos (by simp)]
  show unitP (s.data.toList.drop (p + 2)) = _
  rw [unitP, if_neg (by rw [List.length_drop]; omega)]
theorem unit_step2 (s : ByteArray) (p j : Nat) (n d R : Int) (h : p + 6 ≤ s.size) (h2 : 2 ≤ j) (hj : j < 6) (hd : hexP ((s[p + j]'(by omega)).toNat) = d) (hR : unitA n (((s.data.toList.drop (p + 2)).take 4).drop (j - 2)) = R) : if d < 0 then R = -1 else unitA (n * 16 + d) (((s.data.toList.drop (p + 2)).take 4).drop (j + 1 - 2)) = R := by
  have hl : s.data.toList.length = s.size := (Lib.size_eq s).symm
  have hk : j - 2 < ((s.data.toList.drop (p + 2)).take 4).length := by rw [List.length_take, List.length_drop]; omega
  rw [List.drop_eq_getElem_cons hk] at hR
  have e : ((s.data.toList.drop (p + 2)).take 4)[j - 2] = s[p + j]'(by omega) := by
    rw [List.getElem_take, List.getElem_drop]
    have : p + 2 + (j - 2) = p + j := by omega
    simp only [this]; rfl
  rw [e, unitA, hd, show j - 2 + 1 = j + 1 - 2 by omega] at hR
  split at hR
  · rename_i h; rw [if_pos h]; exact hR.symm
  · rename_i h; rw [if_neg h]; exact hR
set_option maxRecDepth 100000 in
set_option maxHeartbeats 1000000 in
theorem runit_any (s : ByteArray) (p : Nat) (R : Int) (w : World) (hp : p ≤ 1000000) (hs : s.size ≤ 1000000) (hR : Hid (lowP (s.data.toList.drop p) = R)) :
    Calls Try.prog 33 #[.string s, .int .i64 (p : Nat)] w fun e w' => e = .returned (.int .i64 R) ∧ w = w' := by
  have hl : Hid (s.data.toList.length = s.size) := Lib.hid (Lib.size_eq s).symm
  by_cases h6 : s.size < p + 6
  · have h6' : (s.size : Int) - (p : Int) < 6 := by omega
    have HR : Hid (R = -1) := Lib.hid (by rw [← hR.out, lowP_short _ (by rw [List.length_drop, hl.out]; omega)])
    go_enter Try.func33, Try.ntmps33
    go_wp2_with fail
    go_ret
    exact ⟨ret_i64 HR.out.symm, rfl⟩
  · have h6' : ¬ (s.size : Int) - (p : Int) < 6 := by omega
    have hp1 : (p : Int) < (s.size : Int) := by omega
    have hp2 : (p : Int) + 1 < (s.size : Int) := by omega
    by_cases h92 : s[p]'(by omega) = 92
    case neg =>
      have HR : Hid (R = -1) := Lib.hid (by rw [← hR.out]; exact low_no s p (by omega) (.inl h92))
      have hb : (((s[p]'(by omega)).toNat : Int) != 92) = true := by rw [bne_iff_ne]; exact fun h => h92 ((u8_int (n := 92) (by decide)).1 h)
      clear h92
      go_enter Try.func33, Try.ntmps33
      go_wp2_with fail
      go_ret
      exact ⟨ret_i64 HR.out.symm, rfl⟩
    case pos =>
    have hb : (((s[p]'(by omega)).toNat : Int) != 92) = false := by rw [bne_eq_false_iff_eq]; exact (u8_int (n := 92) (by decide)).2 h92
    by_cases h117 : s[p + 1]'(by omega) = 117
    case neg =>
      have HR : Hid (R = -1) := Lib.hid (by rw [← hR.out]; exact low_no s p (by omega) (.inr h117))
      have hb2 : (((s[p + 1]'(by omega)).toNat : Int) != 117) = true := by rw [bne_iff_ne]; exact fun h => h117 ((u8_int (n := 117) (by decide)).1 h)
      clear h92 h117
      go_enter Try.func33, Try.ntmps33
      go_wp2_with fail
      go_ret
      exact ⟨ret_i64 HR.out.symm, rfl⟩
    case pos =>
    have hb2 : (((s[p + 1]'(by omega)).toNat : Int) != 117) = false := by rw [bne_eq_false_iff_eq]; exact (u8_int (n := 117) (by decide)).2 h117
    have HR : Hid (unitA 0 ((s.data.toList.drop (p + 2)).take 4) = R) := Lib.hid (by rw [← hR.out]; exact (low_yes s p (by omega) h92 h117).symm)
    clear h92 h117
    go_enter Try.func33, Try.ntmps33
    go_wp2_with fail
    go_loopg [5, 6] 4 (fun g v i wr => ∃ (j : Nat) (N : Int), 2 ≤ j ∧ j ≤ 6 ∧ g = 6 - j ∧ v = .int .i64 N ∧ i = .int .i64 j ∧ 0 ≤ N ∧ Hid (N + 1 ≤ 16 ^ (j - 2)) ∧ Hid (unitA N (((s.data.toList.drop (p + 2)).take 4).drop (j - 2)) = R) ∧ w = wr)
    case atStart => exact ⟨2, 0, by omega, by omega, by omega, rfl, rfl, by omega, Lib.hid (by decide), HR, rfl⟩
    case round =>
      obtain ⟨j, N, hj2, hj, rfl, rfl, rfl, hN, hP, hA, rfl⟩ := hrel
      by_cases hlt : j < 6
      · have hN4 : N ≤ 4095 := pow_small (j - 2) (by omega) N hP.out
        have hji : (p : Int) + (j : Int) < (s.size : Int) := by omega
        have hbb := u8_le (s[p + j]'(by omega))
        obtain ⟨d, hd⟩ : ∃ d, hexP ((s[p + j]'(by omega)).toNat) = d := ⟨_, rfl⟩
        have hdb := hexP_bd ((s[p + j]'(by omega)).toNat)
        rw [hd] at hdb
        have HD := Lib.hid hd
        have HS := Lib.hid (unit_step2 s p j N d R (by omega) hj2 hlt hd hA.out)
        have hdj : decide ((j : Int) < 6) = true := by rw [decide_eq_true_eq]; omega
        clear hd
        by_cases hd0 : d < 0
        · have HRm : Hid (R = -1) := Lib.hid (by have := HS.out; rw [if_pos hd0] at this; exact this)
          go_wp2_with fail
          refine (rhex_to _ d _ (by omega) (by omega) HD).mono ?_; rintro e w' ⟨rfl, rfl⟩
          go_wp2_with fail
          go_ret
          exact ⟨ret_i64 HRm.out.symm, rfl⟩
        · have HS' : Hid (unitA (N * 16 + d) (((s.data.toList.drop (p + 2)).take 4).drop (j + 1 - 2)) = R) := Lib.hid (by have := HS.out; rw [if_neg hd0] at this; exact this)
          have hP' : Hid (N * 16 + d + 1 ≤ 16 ^ (j + 1 - 2)) := Lib.hid (by
            rw [show j + 1 - 2 = (j - 2) + 1 by omega, Int.pow_succ]; have := hP.out; omega)
          go_wp2_with fail
          refine (rhex_to _ d _ (by omega) (by omega) HD).mono ?_; rintro e w' ⟨rfl, rfl⟩
          go_wp2_with fail
          go_roundg (6 - (j + 1))
          case measure => go_light; omega
          case rel => go_light; exact ⟨j + 1, N * 16 + d, by omega, by omega, rfl, rfl, by go_num, by omega, hP', HS', rfl⟩
      · have hdj : decide ((j : Int) < 6) = false := by rw [decide_eq_false_iff_not]; omega
        have HE : Hid (N = R) := Lib.hid (by
          have := hA.out
          rw [List.drop_of_length_le (by rw [List.length_take]; omega)] at this; exact this)
        go_wp2_with fail
        go_ret
        exact ⟨ret_i64 HE.out, rfl⟩
end Go.Proofs.Ytlckidgeooiboaa
