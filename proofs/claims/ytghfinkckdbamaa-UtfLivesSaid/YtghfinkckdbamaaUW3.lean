/- The walks of awake and of the reference's Step: it is Step. -/
import Derived.Test.YtghfinkckdbamaaUW2
import Derived.LoopTactic
import Derived.Handy
namespace Go.Proofs.Ytghfinkckdbamaa
open Go.RowKit Go.Proofs.Lw

theorem awake_any (w : World) :
    Calls Try.prog 9 #[] w fun e w' => e = .returned (.bool true) ∧ Below w.heap.size w w' := by
  go_enter Try.func9, Try.ntmps9
  go_wp2_with (first | (go_at_call 10; refine (step_any 0 237 _ (by omega) (by omega)).mono ?_; rintro e w' ⟨rfl, rfl⟩) | (go_at_call 18; refine (put_any 65 _).mono ?_; rintro e w' ⟨rfl, hb⟩))
  go_ret
  exact ⟨by rw [show ((strOfNums (putN 65)).toList == [65]) = true from by decide +kernel]; rfl, by assumption⟩

theorem rstep_out (st b : Int) (w : World) (h : st < 0 ∨ 7 < st) :
    Calls Try.prog 11 #[.int .i64 st, .int .u8 b] w fun e w' => e = .returned (.int .i64 8) ∧ Below w.heap.size w w' := by
  rcases h with h | h
  all_goals
    go_enter Try.func11, Try.ntmps11
    go_wp2
    go_ret
    exact ⟨rfl, Below.refl _ _⟩

theorem below3 (w : World) (a b c : Obj) : Below w.heap.size w (((w.alloc a).alloc b).alloc c) :=
  (((Below.refl _ _).alloc (Nat.le_refl _) _).alloc (by simp) _).alloc (by simp; omega) _

set_option maxHeartbeats 4000000 in
theorem rstep_some (st b : Int) (w : World) (h0 : 0 ≤ b) (h1 : b ≤ 255) (h : st = 1 ∨ st = 2 ∨ st = 3 ∨ st = 4 ∨ st = 5 ∨ st = 6 ∨ st = 7) :
    Calls Try.prog 11 #[.int .i64 st, .int .u8 b] w fun e w' => e = .returned (.int .i64 (ustep st b)) ∧ Below w.heap.size w w' := by
  rcases h with rfl | rfl | rfl | rfl | rfl | rfl | rfl
  all_goals
    go_enter Try.func11, Try.ntmps11
    go_wp2
    all_goals
      go_ret
      go_light
      refine ⟨ret_i64 ?_, below3 _ _ _ _⟩
      simp [ustep, ulow, uhigh, unext]
      try omega

set_option maxHeartbeats 4000000 in
theorem rstep_zero (b : Int) (w : World) (h0 : 0 ≤ b) (h1 : b ≤ 255)
    (h : b < 128 ∨ (128 ≤ b ∧ b < 194) ∨ (194 ≤ b ∧ b < 224) ∨ b = 224 ∨ (225 ≤ b ∧ b < 237) ∨ b = 237 ∨ (238 ≤ b ∧ b < 240) ∨ b = 240 ∨ (241 ≤ b ∧ b < 244) ∨ b = 244 ∨ 245 ≤ b) :
    Calls Try.prog 11 #[.int .i64 0, .int .u8 b] w fun e w' => e = .returned (.int .i64 (ustep 0 b)) ∧ Below w.heap.size w w' := by
  rcases h with h | ⟨h, h'⟩ | ⟨h, h'⟩ | rfl | ⟨h, h'⟩ | rfl | ⟨h, h'⟩ | rfl | ⟨h, h'⟩ | rfl | h
  all_goals
    go_enter Try.func11, Try.ntmps11
    go_wp2
    go_rounds 10
    all_goals
      go_ret
      go_light
      refine ⟨ret_i64 ?_, below3 _ _ _ _⟩
      unfold ustep ufirst
      (repeat' split) <;> first | rfl | omega
end Go.Proofs.Ytghfinkckdbamaa
