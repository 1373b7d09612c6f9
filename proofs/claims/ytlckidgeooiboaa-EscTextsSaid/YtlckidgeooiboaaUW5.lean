/- The walk of Scalar. -/
import Derived.Test.YtlckidgeooiboaaUW4
import Derived.Test.YtlckidgeooiboaaUPlain3
import Derived.OwnWalk
namespace Go.Proofs.Ytlckidgeooiboaa
open Go.RowKit Go.Proofs.Lw

theorem i64_and_pow (n : Int) (k m : Nat) (hk : (BitVec.ofInt 64 (m : Int)).toNat = 2 ^ k - 1) (hm : 2 ^ k = m + 1) (h0 : 0 ≤ n) (h1 : n < 9223372036854775808) : bits .and .i64 n (m : Int) = n % ((m + 1 : Nat) : Int) := by
  obtain ⟨a, rfl⟩ := Int.eq_ofNat_of_zero_le h0
  have key : (BitVec.ofInt 64 (a : Int) &&& BitVec.ofInt 64 (m : Int)).toNat = a % 2 ^ k := by
    rw [BitVec.toNat_and, ofInt_64 _ (by omega), hk, Nat.and_two_pow_sub_one_eq_mod]
  show IntKind.i64.wrap ((BitVec.ofInt 64 (a : Int) &&& BitVec.ofInt 64 (m : Int)).toNat : Nat) = _
  rw [key, IntKind.wrap_i64, hm]
  have : a % (m + 1) ≤ a := Nat.mod_le _ _
  have e : ((a : Nat) : Int) % ((m + 1 : Nat) : Int) = ((a % (m + 1) : Nat) : Int) := (Int.natCast_emod _ _).symm
  rw [e]
  omega
theorem lead_to (b n : Int) (w : World) (h0 : 0 ≤ b) (h1 : b ≤ 255) (h : Hid (ulead b = n)) :
    Calls Try.prog 44 #[.int .u8 b] w fun e w' => e = .returned (.int .i64 n) ∧ w = w' := by
  rw [← h.out]; exact lead_any b w h0 h1

set_option maxRecDepth 100000 in
theorem scalar_any (s : ByteArray) (w : World) (hs : s.size ≤ maxLen) :
    Calls Try.prog 38 #[.string s] w fun e w' => e = .returned (.tuple #[.int .i64 (uscal s.data.toList).1, .int .i64 ((uscal s.data.toList).2 : Nat)]) ∧ w = w' := by
  unfold maxLen at hs
  go_enter Try.func38, Try.ntmps38
  go_wp2
  go_loop [4, 5, 10] (fun st c i => ∃ (k : Nat) (st' c' : Int), k ≤ s.size ∧ UInv k st' c' ∧ uscal s.data.toList = uscalS st' c' k (s.data.toList.drop k) ∧ st = .int .i64 st' ∧ c = .int .i64 c' ∧ i = .int .i64 k) (fun _ _ i => s.size - (intOf i).toNat)
  case atStart => exact ⟨0, 0, 0, Nat.zero_le _, .inl ⟨rfl, rfl, rfl⟩, rfl, rfl, rfl, rfl⟩
  case round =>
    obtain ⟨k, st', c', hk, hi, hu, rfl, rfl, rfl⟩ := hrel
    obtain ⟨c0, c1, k3⟩ := hi.bd
    have HI := Lib.hid hi
    have HU := Lib.hid hu
    clear hi hu
    by_cases hlt : k < s.size
    · have hb := u8_le s[k]
      have HD := Lib.hid (drop_cons s k hlt)
      by_cases h8 : ustep st' s[k].toNat = 8
      · have HE : Hid (uscal s.data.toList = (0, 0)) := Lib.hid (by rw [HU.out, HD.out, uscalS_cons, if_pos h8])
        go_wp2_with (go_at_call 34; refine (step_any _ _ _ (by omega) (by omega)).mono ?_; rintro e w' ⟨rfl, rfl⟩)
        go_ret2
        exact ⟨by rw [HE.out]; rfl, rfl⟩
      · have h8' : (ustep st' s[k].toNat == 8) = false := beq_eq_false_iff_ne.2 h8
        have H8 := Lib.hid h8
        clear h8
        by_cases hk0 : k = 0
        · subst hk0
          obtain ⟨rfl, rfl⟩ := HI.out.zero rfl
          have h80 := H8.out
          by_cases hlo : (s[0].toNat : Int) < 128
          · have h0 : Hid (ustep 0 s[0].toNat = 0) := Lib.hid (ustep0_lo _ hlo)
            have hc : ustep 0 (s[0].toNat : Int) = 0 := h0.out
            have HE : Hid (uscal s.data.toList = ((s[0].toNat : Int), 1)) := Lib.hid (by
              rw [HU.out, HD.out, uscalS_cons, if_neg H8.out, if_pos h0.out, if_neg (by omega)]; simp [ufirstC, hlo])
            clear h80
            go_wp2_with (go_at_call 34; refine (step_any _ _ _ (by omega) (by omega)).mono ?_; rintro e w' ⟨rfl, rfl⟩)
            go_ret2
            exact ⟨by rw [HE.out]; rfl, rfl⟩
          · have h0 : (ustep 0 (s[0].toNat : Int) == 0) = false := by
              rw [beq_eq_false_iff_ne]; unfold ustep ufirst; rw [if_pos rfl, if_neg hlo]; (repeat' split) <;> omega
            have hge : 194 ≤ (s[0].toNat : Int) := (ustep0_hi _ h80 hlo).1
            have H0 : Hid (¬ ustep 0 (s[0].toNat : Int) = 0) := Lib.hid (beq_eq_false_iff_ne.1 h0)
            have HN : Hid (uscal s.data.toList = uscalS (ustep 0 s[0].toNat) (ufirstC s[0].toNat) 1 (s.data.toList.drop 1)) := Lib.hid (by
              rw [HU.out, HD.out, uscalS_cons, if_neg H8.out, if_neg H0.out, if_neg (by omega)])
            have HI1 := Lib.hid (UInv.step0 _ H8.out H0.out)
            clear h80
            by_cases hA : (s[0].toNat : Int) < 224
            · have HL : Hid (ulead s[0].toNat = 1) := Lib.hid (by unfold ulead; rw [if_neg (by omega), if_neg (by omega)])
              have HC : Hid (ufirstC s[0].toNat = (s[0].toNat : Int) % 32) := Lib.hid (by unfold ufirstC; rw [if_neg hlo, if_pos hA])
              have ea : bits .and .i64 (s[0].toNat : Int) 31 = (s[0].toNat : Int) % 32 := i64_and_pow _ 5 31 (by decide) (by decide) (by omega) (by omega)
              go_wp2_with (first | (go_at_call 34; refine (step_any _ _ _ (by omega) (by omega)).mono ?_; rintro e w' ⟨rfl, rfl⟩) | (go_at_call 44; refine (lead_to _ _ _ (by omega) (by omega) HL).mono ?_; rintro e w' ⟨rfl, rfl⟩))
              go_round
              case rel => exact ⟨1, _, _, by omega, HI1.out, HN.out, rfl, by rw [HC.out], rfl⟩
              case measure => exact Nat.sub_lt_sub_left hlt (Nat.zero_lt_one)
            · by_cases hB : (s[0].toNat : Int) < 240
              · have HL : Hid (ulead s[0].toNat = 2) := Lib.hid (by unfold ulead; rw [if_neg (by omega), if_pos (by omega)])
                have HC : Hid (ufirstC s[0].toNat = (s[0].toNat : Int) % 16) := Lib.hid (by unfold ufirstC; rw [if_neg hlo, if_neg hA, if_pos hB])
                have ea : bits .and .i64 (s[0].toNat : Int) 15 = (s[0].toNat : Int) % 16 := i64_and_pow _ 4 15 (by decide) (by decide) (by omega) (by omega)
                go_wp2_with (first | (go_at_call 34; refine (step_any _ _ _ (by omega) (by omega)).mono ?_; rintro e w' ⟨rfl, rfl⟩) | (go_at_call 44; refine (lead_to _ _ _ (by omega) (by omega) HL).mono ?_; rintro e w' ⟨rfl, rfl⟩))
                go_round
                case rel => exact ⟨1, _, _, by omega, HI1.out, HN.out, rfl, by rw [HC.out], rfl⟩
                case measure => exact Nat.sub_lt_sub_left hlt (Nat.zero_lt_one)
              · have HL : Hid (ulead s[0].toNat = 3) := Lib.hid (by unfold ulead; rw [if_pos (by omega)])
                have HC : Hid (ufirstC s[0].toNat = (s[0].toNat : Int) % 8) := Lib.hid (by unfold ufirstC; rw [if_neg hlo, if_neg hA, if_neg hB])
                have ea : bits .and .i64 (s[0].toNat : Int) 7 = (s[0].toNat : Int) % 8 := i64_and_pow _ 3 7 (by decide) (by decide) (by omega) (by omega)
                go_wp2_with (first | (go_at_call 34; refine (step_any _ _ _ (by omega) (by omega)).mono ?_; rintro e w' ⟨rfl, rfl⟩) | (go_at_call 44; refine (lead_to _ _ _ (by omega) (by omega) HL).mono ?_; rintro e w' ⟨rfl, rfl⟩))
                go_round
                case rel => exact ⟨1, _, _, by omega, HI1.out, HN.out, rfl, by rw [HC.out], rfl⟩
                case measure => exact Nat.sub_lt_sub_left hlt (Nat.zero_lt_one)
        · have hk1 : (0 : Int) < (k : Int) := by omega
          have ea := i64_and63 (s[k].toNat : Int)
          have eo : bits .or .i64 (c' * 64) ((s[k].toNat : Int) % 64) = c' * 64 + (s[k].toNat : Int) % 64 :=
            i64_join 6 _ _ (by omega) (by omega) (by omega) (by omega) (by omega) (by omega)
          cases h0 : (ustep st' s[k].toNat == 0)
          · have H0 : Hid (¬ ustep st' (s[k].toNat : Int) = 0) := Lib.hid (beq_eq_false_iff_ne.1 h0)
            have HN : Hid (uscal s.data.toList = uscalS (ustep st' s[k].toNat) (c' * 64 + (s[k].toNat : Int) % 64) (k + 1) (s.data.toList.drop (k + 1))) := Lib.hid (by
              rw [HU.out, HD.out, uscalS_cons, if_neg H8.out, if_neg H0.out, if_pos (by omega)])
            have HI1 := Lib.hid (UInv.step HI.out hk0 _ H8.out H0.out)
            go_wp2_with (go_at_call 34; refine (step_any _ _ _ (by omega) (by omega)).mono ?_; rintro e w' ⟨rfl, rfl⟩)
            go_round
            case rel => exact ⟨k + 1, _, _, by omega, HI1.out, HN.out, rfl, rfl, by go_num⟩
            case measure => simp [intOf]; omega
          · have H0 : Hid (ustep st' (s[k].toNat : Int) = 0) := Lib.hid (beq_iff_eq.1 h0)
            have HE : Hid (uscal s.data.toList = (c' * 64 + (s[k].toNat : Int) % 64, k + 1)) := Lib.hid (by
              rw [HU.out, HD.out, uscalS_cons, if_neg H8.out, if_pos H0.out, if_pos (by omega)])
            go_wp2_with (go_at_call 34; refine (step_any _ _ _ (by omega) (by omega)).mono ?_; rintro e w' ⟨rfl, rfl⟩)
            go_ret2
            exact ⟨by rw [HE.out]; rfl, rfl⟩
    · have HE : Hid (uscal s.data.toList = (0, 0)) := Lib.hid (by
        rw [HU.out, List.drop_of_length_le (by simp; omega)]; rfl)
      go_wp2
      go_ret2
      exact ⟨by rw [HE.out]; rfl, rfl⟩
end Go.Proofs.Ytlckidgeooiboaa
