/- The walks of hex, simple, unit. -/
import Derived.Test.YtlckidgeooiboaaUW5
import Derived.Test.YtlckidgeooiboaaEPlain
import Derived.Deep.LoopGhost
import Derived.Deep.Light
namespace Go.Proofs.Ytlckidgeooiboaa
open Go.RowKit Go.Proofs.Lw Go.Proofs.Le

theorem hex_any (c : Int) (w : World) (h0 : 0 ≤ c) (h1 : c ≤ 255) :
    Calls Try.prog 46 #[.int .u8 c] w fun e w' => e = .returned (.int .i64 (hexP c)) ∧ w = w' := by
  go_enter Try.func46, Try.ntmps46
  go_wp2
  all_goals
    go_ret
    go_light
    refine ⟨ret_i64 ?_, rfl⟩
    try simp only [beq_iff_eq, beq_eq_false_iff_ne, ne_eq] at *
    unfold hexP
    repeat' split
    all_goals omega
theorem rhex_any (c : Int) (w : World) (h0 : 0 ≤ c) (h1 : c ≤ 255) :
    Calls Try.prog 42 #[.int .u8 c] w fun e w' => e = .returned (.int .i64 (hexP c)) ∧ w = w' := by
  go_enter Try.func42, Try.ntmps42
  go_wp2
  all_goals
    go_ret
    go_light
    refine ⟨ret_i64 ?_, rfl⟩
    try simp only [beq_iff_eq, beq_eq_false_iff_ne, ne_eq] at *
    unfold hexP
    repeat' split
    all_goals omega
theorem simple_any (c : Int) (w : World) (h0 : 0 ≤ c) (h1 : c ≤ 255) :
    Calls Try.prog 40 #[.int .u8 c] w fun e w' => e = .returned (.int .i64 (simpleP c)) ∧ w = w' := by
  go_enter Try.func40, Try.ntmps40
  go_wp2
  all_goals
    go_ret
    go_light
    refine ⟨ret_i64 ?_, rfl⟩
    try simp only [beq_iff_eq, beq_eq_false_iff_ne, ne_eq] at *
    unfold simpleP
    repeat' split
    all_goals omega

theorem hex_to (c R : Int) (w : World) (h0 : 0 ≤ c) (h1 : c ≤ 255) (h : Hid (hexP c = R)) :
    Calls Try.prog 46 #[.int .u8 c] w fun e w' => e = .returned (.int .i64 R) ∧ w = w' := by
  rw [← h.out]; exact hex_any c w h0 h1
theorem unitA_step (s : ByteArray) (k : Nat) (n d R : Int) (h4 : 4 ≤ s.size) (hk : k < 4) (hd : hexP ((s[k]'(by omega)).toNat) = d) (hR : unitA n ((s.data.toList.take 4).drop k) = R) : if d < 0 then R = -1 else unitA (n * 16 + d) ((s.data.toList.take 4).drop (k + 1)) = R := by
  have hl : k < (s.data.toList.take 4).length := by simp; omega
  rw [List.drop_eq_getElem_cons hl] at hR
  have e : (s.data.toList.take 4)[k] = s[k]'(by omega) := by simp; rfl
  rw [e, unitA, hd] at hR
  split at hR
  · rename_i h; rw [if_pos h]; exact hR.symm
  · rename_i h; rw [if_neg h]; exact hR
theorem pow_small (k : Nat) (hk : k < 4) (N : Int) (h : N + 1 ≤ 16 ^ k) : N ≤ 4095 := by
  match k, hk with
  | 0, _ => simp at h; omega
  | 1, _ => simp at h; omega
  | 2, _ => have : (16 : Int) ^ 2 = 256 := by decide
            omega
  | 3, _ => have : (16 : Int) ^ 3 = 4096 := by decide
            omega
set_option maxRecDepth 100000 in
set_option maxHeartbeats 1000000 in
theorem unit_any (s : ByteArray) (R : Int) (w : World) (hs : s.size ≤ maxLen) (hR : Hid (unitP s.data.toList = R)) :
    Calls Try.prog 45 #[.string s] w fun e w' => e = .returned (.int .i64 R) ∧ w = w' := by
  unfold maxLen at hs
  by_cases h4 : s.size < 4
  · have HR : Hid (R = -1) := Lib.hid (by rw [← hR.out, unitP, if_pos (by simpa using h4)])
    go_enter Try.func45, Try.ntmps45
    go_wp2_with fail
    go_ret
    exact ⟨ret_i64 HR.out.symm, rfl⟩
  · have HR : Hid (unitA 0 (s.data.toList.take 4) = R) := Lib.hid (by rw [← hR.out, unitP, if_neg (by simpa using h4)])
    go_enter Try.func45, Try.ntmps45
    go_wp2_with fail
    go_loopg [3, 9] 4 (fun g v i wr => ∃ (k : Nat) (N : Int), k ≤ 4 ∧ g = 4 - k ∧ v = .int .i64 N ∧ i = .int .i64 k ∧ 0 ≤ N ∧ Hid (N + 1 ≤ 16 ^ k) ∧ Hid (unitA N ((s.data.toList.take 4).drop k) = R) ∧ w = wr)
    case atStart => exact ⟨0, 0, by omega, rfl, rfl, rfl, by omega, Lib.hid (by decide), HR, rfl⟩
    case round =>
      obtain ⟨k, N, hk, rfl, rfl, rfl, hN, hP, hA, rfl⟩ := hrel
      by_cases hlt : k < 4
      · have hN4 : N ≤ 4095 := pow_small k hlt N hP.out
        have hb := u8_le (s[k]'(by omega))
        obtain ⟨d, hd⟩ : ∃ d, hexP ((s[k]'(by omega)).toNat) = d := ⟨_, rfl⟩
        have hdb := hexP_bd ((s[k]'(by omega)).toNat)
        rw [hd] at hdb
        have HD := Lib.hid hd
        have HS := Lib.hid (unitA_step s k N d R (by omega) hlt hd hA.out)
        clear hd
        by_cases hd0 : d < 0
        · have HRm : Hid (R = -1) := Lib.hid (by have := HS.out; rw [if_pos hd0] at this; exact this)
          go_wp2_with (go_at_call 46; refine (hex_to _ d _ (by omega) (by omega) HD).mono ?_; rintro e w' ⟨rfl, rfl⟩)
          go_ret
          exact ⟨ret_i64 HRm.out.symm, rfl⟩
        · have HS' : Hid (unitA (N * 16 + d) ((s.data.toList.take 4).drop (k + 1)) = R) := Lib.hid (by have := HS.out; rw [if_neg hd0] at this; exact this)
          have hjn := i64_join 4 (N * 16) d (by omega) (by omega) (by omega) (by omega) (by omega) (by omega)
          have hP' : Hid (N * 16 + d + 1 ≤ 16 ^ (k + 1)) := Lib.hid (by rw [Int.pow_succ]; have := hP.out; omega)
          go_wp2_with (go_at_call 46; refine (hex_to _ d _ (by omega) (by omega) HD).mono ?_; rintro e w' ⟨rfl, rfl⟩)
          go_roundg (4 - (k + 1))
          case measure => go_light; omega
          case rel => go_light; exact ⟨k + 1, N * 16 + d, by omega, rfl, rfl, by go_num, by omega, hP', HS', rfl⟩
      · have HE : Hid (N = R) := Lib.hid (by
          have := hA.out
          rw [List.drop_of_length_le (by simp; omega)] at this; exact this)
        go_wp2_with fail
        go_ret
        exact ⟨ret_i64 HE.out, rfl⟩
end Go.Proofs.Ytlckidgeooiboaa
