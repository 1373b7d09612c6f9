/- The walks of the laws UtfScalars and UtfBack. -/
import Derived.Test.YtghfinkckdbamaaUW7
import Derived.Test.YtghfinkckdbamaaUL2
namespace Go.Proofs.Ytghfinkckdbamaa
open Go.RowKit Go.Proofs.Lw

theorem scalars_walk (s : ByteArray) (c : Int) (w : World) (hs : s.size ≤ maxLen) :
    Calls Try.prog 7 #[.string s, .int .i64 c] w fun e w' => e = .returned (.bool true) ∧ Below w.heap.size w w' := by
  by_cases h1 : 300 < s.size
  · go_enter Try.func7, Try.ntmps7
    go_wp2_with (go_at_call 9; refine (awake_any _).mono ?_; rintro e w1 ⟨rfl, hb1⟩)
    go_ret
    exact ⟨rfl, bthen (by assumption) hb1⟩
  · go_enter Try.func7, Try.ntmps7
    go_wp2_with fail
    refine (awake_any _).mono ?_; rintro e w1 ⟨rfl, hb1⟩
    go_wp2_with fail
    refine (scalar_any _ _ hs).mono ?_; rintro e w' ⟨rfl, rfl⟩
    go_wp2_with fail
    refine (rscalar_any _ _).mono ?_; rintro e w2 ⟨rfl, hb2⟩
    go_wp2_with fail
    refine (put_any _ _).mono ?_; rintro e w3 ⟨rfl, hb3⟩
    go_wp2_with fail
    refine (rput_any _ _).mono ?_; rintro e w4 ⟨rfl, hb4⟩
    go_wp2_with fail
    go_ret
    exact ⟨rfl, bthen (bthen (bthen hb1 hb2) hb3) hb4⟩
end Go.Proofs.Ytghfinkckdbamaa
