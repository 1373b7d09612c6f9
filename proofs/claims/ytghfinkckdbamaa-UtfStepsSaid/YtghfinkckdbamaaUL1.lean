/- The walk of the law UtfSteps. -/
import Derived.Test.YtghfinkckdbamaaUW3
namespace Go.Proofs.Ytghfinkckdbamaa
open Go.RowKit Go.Proofs.Lw
theorem rstep_any (st b : Int) (w : World) (h0 : 0 ≤ b) (h1 : b ≤ 255) :
    Calls Try.prog 11 #[.int .i64 st, .int .u8 b] w fun e w' => e = .returned (.int .i64 (ustep st b)) ∧ Below w.heap.size w w' := by
  by_cases h : st < 0 ∨ 7 < st
  · have e : ustep st b = 8 := by
      unfold ustep ulow uhigh unext
      rw [if_neg (by omega)]
      (repeat' split) <;> first | rfl | omega
    rw [e]; exact rstep_out st b w h
  · by_cases hz : st = 0
    · subst hz; exact rstep_zero b w h0 h1 (by omega)
    · exact rstep_some st b w h0 h1 (by omega)

theorem steps_walk (st b : Int) (w : World) (h0 : 0 ≤ b) (h1 : b ≤ 255) :
    Calls Try.prog 3 #[.int .i64 st, .int .u8 b] w fun e w' => e = .returned (.bool true) ∧ Below w.heap.size w w' := by
  go_enter Try.func3, Try.ntmps3
  go_wp2_with (first
    | (go_at_call 9; refine (awake_any _).mono ?_; rintro e w1 ⟨rfl, hb1⟩)
    | (go_at_call 10; refine (step_any _ _ _ (by omega) (by omega)).mono ?_; rintro e w' ⟨rfl, rfl⟩)
    | (go_at_call 11; refine (rstep_any _ _ _ (by omega) (by omega)).mono ?_; rintro e w2 ⟨rfl, hb2⟩))
  go_ret
  exact ⟨rfl, hb1.trans (hb2.mono hb1.size)⟩

theorem u8_bd {a : Int} (h : (Lit.int .u8 a).wf = true) : 0 ≤ a ∧ a ≤ 255 := by
  simpa [Lit.wf, IntKind.min, IntKind.max, IntKind.signed, IntKind.bits] using h
end Go.Proofs.Ytghfinkckdbamaa
