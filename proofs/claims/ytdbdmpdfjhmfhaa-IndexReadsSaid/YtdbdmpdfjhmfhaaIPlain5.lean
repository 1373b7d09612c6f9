/- Plain law of the index layer: what Read answers. -/
import Derived.Test.YtdbdmpdfjhmfhaaIPlain4
namespace Go.Proofs.Lx
/-- the loop over the entries: how many are to come, the reader, those that are read -/
def loopP : Nat → ByteArray → Bool → List En → List En × ByteArray × Bool
  | 0, s, bad, L => (L, s, bad)
  | k + 1, s, bad, L => if bad = true then (L, s, bad) else loopP k (entP s bad).2.1 (entP s bad).2.2 (L ++ [(entP s bad).1])
theorem loopP_bad (k : Nat) (s : ByteArray) (L : List En) : loopP k s true L = (L, s, true) := by cases k <;> rfl
theorem loopP_step (k : Nat) (s : ByteArray) (L : List En) (x : En) (s' : ByteArray) (b' : Bool) (h : entP s false = (x, s', b')) : loopP (k + 1) s false L = loopP k s' b' (L ++ [x]) := by
  simp [loopP, h]
theorem entP_size (s : ByteArray) (bad : Bool) : (entP s bad).2.1.size ≤ s.size := by
  have h1 := (numP_size 1048576 s bad).2
  have h2 := (numP_size 1048576 (numP 1048576 s bad).2.1 (numP 1048576 s bad).2.2).2
  have h3 := (takeP_size 1 (numP 1048576 (numP 1048576 s bad).2.1 (numP 1048576 s bad).2.2).2.1 (numP 1048576 (numP 1048576 s bad).2.1 (numP 1048576 s bad).2.2).2.2).2.2
  simp only [entP]
  refine Nat.le_trans (takeP_size _ _ _).2.2 (Nat.le_trans (numP_size _ _ _).2 (Nat.le_trans (numP_size _ _ _).2 ?_))
  omega
end Go.Proofs.Lx
