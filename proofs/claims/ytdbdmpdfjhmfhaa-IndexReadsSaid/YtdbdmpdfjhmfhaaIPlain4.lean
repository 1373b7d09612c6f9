/- Plain law of the index layer: the reader. -/
import Derived.Test.YtdbdmpdfjhmfhaaIPlain3
namespace Go.Proofs.Lx
/-- the number that some bytes are, the lowest first -/
def wideTo : List UInt8 → Nat
  | [] => 0
  | b :: l => b.toNat + 256 * wideTo l
theorem wideTo_append (l m : List UInt8) : wideTo (l ++ m) = wideTo l + 256 ^ l.length * wideTo m := by
  induction l with
  | nil => simp [wideTo]
  | cons b l ih =>
    simp only [List.cons_append, wideTo, ih, List.length_cons, Nat.pow_succ, Nat.mul_add]
    rw [show 256 ^ l.length * 256 * wideTo m = 256 * (256 ^ l.length * wideTo m) from by rw [Nat.mul_comm (256 ^ l.length) 256, Nat.mul_assoc]]
    omega
theorem wideTo_lt (l : List UInt8) : wideTo l < 256 ^ l.length := by
  induction l with
  | nil => simp [wideTo]
  | cons b l ih =>
    have := b.toNat_lt
    simp only [wideTo, List.length_cons, Nat.pow_succ]
    omega
theorem wideTo_snoc (s : ByteArray) (k : Nat) (h : k < s.size) : wideTo (s.data.toList.take (k + 1)) = wideTo (s.data.toList.take k) + 256 ^ k * s[k].toNat := by
  rw [take_snoc s k h, wideTo_append]
  have : (s.data.toList.take k).length = k := by simp; omega
  rw [this]; simp [wideTo]
/-- take, over the reader's bytes and its mark: what it hands back, what is left, the mark -/
def takeP (n : Nat) (s : ByteArray) (bad : Bool) : ByteArray × ByteArray × Bool :=
  if bad = true ∨ s.size < n then (ByteArray.empty, s, true) else (s.extract 0 n, s.extract n s.size, false)
/-- number -/
def numP (most : Nat) (s : ByteArray) (bad : Bool) : Nat × ByteArray × Bool :=
  if wideTo (takeP 8 s bad).1.data.toList > most then (0, (takeP 8 s bad).2.1, true) else (wideTo (takeP 8 s bad).1.data.toList, (takeP 8 s bad).2)
/-- entry -/
def entP (s : ByteArray) (bad : Bool) : En × ByteArray × Bool :=
  let a := numP 1048576 s bad
  let b := numP 1048576 a.2.1 a.2.2
  let c := takeP 1 b.2.1 b.2.2
  let d := numP 65536 c.2.1 c.2.2
  let e := numP 1048576 d.2.1 d.2.2
  let f := takeP e.1 e.2.1 e.2.2
  (⟨a.1, b.1, wideTo c.1.data.toList, d.1, f.1⟩, f.2)
theorem takeP_size (n : Nat) (s : ByteArray) (bad : Bool) : (takeP n s bad).1.size ≤ n ∧ (takeP n s bad).1.size ≤ s.size ∧ (takeP n s bad).2.1.size ≤ s.size := by
  unfold takeP; split <;> simp <;> omega
theorem numP_size (most : Nat) (s : ByteArray) (bad : Bool) : (numP most s bad).1 ≤ most ∧ (numP most s bad).2.1.size ≤ s.size := by
  have := takeP_size 8 s bad
  unfold numP; split <;> simp only <;> omega
end Go.Proofs.Lx
