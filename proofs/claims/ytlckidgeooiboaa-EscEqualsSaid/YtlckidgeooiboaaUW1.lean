/- The walks of first and Step. -/
import Derived.Test.YtlckidgeooiboaaRows
import Derived.Test.YtlckidgeooiboaaUPlain
import Derived.WalkKit
import Derived.Lib.Hide
import Derived.Outline
import Derived.IntWalk
import Derived.Deep.Light
namespace Go.Proofs.Ytlckidgeooiboaa
open Go.RowKit Go.Proofs.Lw

theorem ret_i64 {a b : Int} (h : a = b) : Ending.returned (.int .i64 a) = .returned (.int .i64 b) := by rw [h]

theorem first_any (b : Int) (w : World) (h0 : 0 ≤ b) (h1 : b ≤ 255) :
    Calls Try.prog 43 #[.int .u8 b] w fun e w' => e = .returned (.int .i64 (ufirst b)) ∧ w = w' := by
  go_enter Try.func43, Try.ntmps43
  go_wp2
  all_goals
    go_ret
    go_light
    refine ⟨ret_i64 ?_, rfl⟩
    try simp only [beq_iff_eq, beq_eq_false_iff_ne, ne_eq] at *
    unfold ufirst
    repeat' split
    all_goals omega

theorem step_any (st b : Int) (w : World) (h0 : 0 ≤ b) (h1 : b ≤ 255) :
    Calls Try.prog 34 #[.int .i64 st, .int .u8 b] w fun e w' => e = .returned (.int .i64 (ustep st b)) ∧ w = w' := by
  go_enter Try.func34, Try.ntmps34
  go_wp2_with (go_at_call 43; refine (first_any _ _ (by omega) (by omega)).mono ?_; rintro e w' ⟨rfl, rfl⟩)
  all_goals
    go_ret
    go_light
    refine ⟨ret_i64 ?_, rfl⟩
    try simp only [beq_iff_eq, beq_eq_false_iff_ne, ne_eq] at *
    try rw [IntWalk.wrap64_in _ ⟨by omega, by omega⟩]
    unfold ustep ulow uhigh unext
    (repeat' split) <;> first | rfl | omega
end Go.Proofs.Ytlckidgeooiboaa
