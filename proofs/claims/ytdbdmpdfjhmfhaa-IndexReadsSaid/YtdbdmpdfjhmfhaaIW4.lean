/- The walks of Sum: the program's and the reference's. -/
import Derived.Test.YtdbdmpdfjhmfhaaIW1
import Derived.Test.YtdbdmpdfjhmfhaaIPlain2
import Derived.Laws.Bits64
namespace Go.Proofs.Ytdbdmpdfjhmfhaa
open Go.RowKit Go.Proofs.Lx

theorem sum_val (h : Nat) (b : UInt8) (hh : h < 18446744073709551616) : IntKind.u64.wrap (bits .xor .u64 (h : Int) (IntKind.u64.wrap (b.toNat : Int)) * 1099511628211) = ((sstep h b.toNat : Nat) : Int) := by
  have hb := b.toNat_lt
  have e : IntKind.u64.wrap (b.toNat : Int) = (b.toNat : Int) := by rw [IntKind.wrap_u64]; omega
  rw [e, bits_xor_u64_nat _ _ hh (by omega), IntKind.wrap_u64]
  unfold sstep
  generalize h ^^^ b.toNat = x
  rw [Int.natCast_emod, Int.natCast_mul]; rfl
theorem basis_lt : basis < 18446744073709551616 := by decide

theorem sum_any (s : ByteArray) (w : World) (hs : s.size ≤ maxLen) :
    Calls Try.prog 16 #[.string s] w fun e w' => e = .returned (.int .u64 (sumL s.data.toList : Nat)) ∧ w = w' := by
  unfold maxLen at hs
  go_enter Try.func16, Try.ntmps16
  go_wp2_with fail
  go_loop [3, 7] (fun h i => ∃ k : Nat, k ≤ s.size ∧ h = .int .u64 (sumF basis (s.data.toList.take k) : Nat) ∧ i = .int .i64 k) (fun _ i => s.size - (intOf i).toNat)
  case atStart => exact ⟨0, Nat.zero_le _, rfl, rfl⟩
  case round =>
    obtain ⟨k, hk, rfl, rfl⟩ := hrel
    by_cases hlt : k < s.size
    · have HS := Lib.hid (sumF_snoc basis s k hlt)
      obtain ⟨h, hh⟩ : ∃ h, h = sumF basis (s.data.toList.take k) := ⟨_, rfl⟩
      rw [← hh]
      have HV := Lib.hid (sum_val h s[k] (by rw [hh]; exact sumF_lt _ _ basis_lt))
      have HH := Lib.hid hh
      clear hh
      go_wp2_with fail
      go_round
      case rel => exact ⟨k + 1, by omega, by rw [HS.out, ← HH.out, HV.out], by go_num⟩
      case measure => simp [intOf]; omega
    · have HS : Hid (sumF basis (s.data.toList.take k) = sumL s.data.toList) := Lib.hid (by rw [List.take_of_length_le (by simp; omega)]; rfl)
      go_wp2_with fail
      go_ret
      exact ⟨by rw [← HS.out]; rfl, rfl⟩

theorem rsum_any (s : ByteArray) (w : World) (hs : s.size ≤ maxLen) :
    Calls Try.prog 12 #[.string s] w fun e w' => e = .returned (.int .u64 (sumL s.data.toList : Nat)) ∧ w = w' := by
  unfold maxLen at hs
  go_enter Try.func12, Try.ntmps12
  go_wp2_with fail
  go_loop [3, 4] (fun h i => ∃ k : Nat, k ≤ s.size ∧ h = .int .u64 (sumF basis (s.data.toList.take k) : Nat) ∧ i = .int .i64 k) (fun _ i => s.size - (intOf i).toNat)
  case atStart => exact ⟨0, Nat.zero_le _, rfl, rfl⟩
  case round =>
    obtain ⟨k, hk, rfl, rfl⟩ := hrel
    by_cases hlt : k < s.size
    · have HS := Lib.hid (sumF_snoc basis s k hlt)
      obtain ⟨h, hh⟩ : ∃ h, h = sumF basis (s.data.toList.take k) := ⟨_, rfl⟩
      rw [← hh]
      have HV := Lib.hid (sum_val h s[k] (by rw [hh]; exact sumF_lt _ _ basis_lt))
      have HH := Lib.hid hh
      clear hh
      go_wp2_with fail
      go_round
      case rel => exact ⟨k + 1, by omega, by rw [HS.out, ← HH.out, HV.out], by go_num⟩
      case measure => simp [intOf]; omega
    · have HS : Hid (sumF basis (s.data.toList.take k) = sumL s.data.toList) := Lib.hid (by rw [List.take_of_length_le (by simp; omega)]; rfl)
      go_wp2_with fail
      go_ret
      exact ⟨by rw [← HS.out]; rfl, rfl⟩
end Go.Proofs.Ytdbdmpdfjhmfhaa
