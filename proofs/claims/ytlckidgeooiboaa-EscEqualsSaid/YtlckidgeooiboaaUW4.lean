/- The walks of Right and Live. -/
import Derived.Test.YtlckidgeooiboaaUW2
import Derived.Test.YtlckidgeooiboaaUPlain2
import Derived.LoopTactic
namespace Go.Proofs.Ytlckidgeooiboaa
open Go.RowKit Go.Proofs.Lw

theorem u8_le (b : UInt8) : 0 ≤ (b.toNat : Int) ∧ (b.toNat : Int) ≤ 255 := by have := b.toNat_lt; omega

theorem right_any (s : ByteArray) (w : World) (hs : s.size ≤ maxLen) :
    Calls Try.prog 25 #[.string s] w fun e w' => e = .returned (.bool (uright s.data.toList)) ∧ w = w' := by
  unfold maxLen at hs
  go_enter Try.func25, Try.ntmps25
  go_wp2
  go_loop [3, 7] (fun st i => ∃ k : Nat, k ≤ s.size ∧ st = .int .i64 (urun 0 (s.data.toList.take k)) ∧ i = .int .i64 k) (fun _ i => s.size - (intOf i).toNat)
  case atStart => exact ⟨0, Nat.zero_le _, rfl, rfl⟩
  case round =>
    obtain ⟨k, hk, rfl, rfl⟩ := hrel
    by_cases hlt : k < s.size
    · have hb := u8_le s[k]
      have HS := Lib.hid (urun_snoc 0 s k hlt)
      go_wp2_with (go_at_call 34; refine (step_any _ _ _ (by omega) (by omega)).mono ?_; rintro e w' ⟨rfl, rfl⟩)
      go_round
      case rel => exact ⟨k + 1, by omega, by rw [HS.out], by go_num⟩
      case measure => simp [intOf]; omega
    · have HS : Hid (urun 0 (s.data.toList.take k) = urun 0 s.data.toList) := Lib.hid (by rw [List.take_of_length_le (by simp; omega)])
      go_wp2
      go_ret
      exact ⟨by show Ending.returned (.bool (urun 0 (s.data.toList.take k) == 0)) = _; rw [HS.out]; rfl, rfl⟩

end Go.Proofs.Ytlckidgeooiboaa
