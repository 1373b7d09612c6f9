/- Plain law of the index layer: the reference's number. -/
import Derived.Test.YtdbdmpdfjhmfhaaIPlain6
namespace Go.Proofs.Lx
/-- the eight bytes from a place on -/
def win8 (s : ByteArray) (p : Nat) : List UInt8 := (s.data.toList.drop p).take 8
def numR (m p : Nat) (s : ByteArray) : Int := if p + 8 ≤ s.size ∧ wideTo (win8 s p) ≤ m then (wideTo (win8 s p) : Nat) else -1
theorem win8_len (s : ByteArray) (p : Nat) (h : p + 8 ≤ s.size) : (win8 s p).length = 8 := by
  have : s.data.toList.length = s.size := by simp
  simp only [win8, List.length_take, List.length_drop]; omega
theorem win8_at (s : ByteArray) (p q : Nat) (h : p + 8 ≤ s.size) (hq : q < 8) : wideTo ((win8 s p).drop q) = (s[p + q]'(by omega)).toNat + 256 * wideTo ((win8 s p).drop (q + 1)) := by
  have hl := win8_len s p h
  rw [List.drop_eq_getElem_cons (by omega)]
  simp only [wideTo]
  have e : (win8 s p)[q]'(by omega) = s[p + q]'(by omega) := by
    simp [win8]; rfl
  rw [e]
theorem wideTo_drop_le (l : List UInt8) (q : Nat) : wideTo (l.drop q) ≤ wideTo l := by
  induction l generalizing q with
  | nil => simp
  | cons b l ih =>
    cases q with
    | zero => exact Nat.le_refl _
    | succ q => simp only [List.drop_succ_cons, wideTo]; have := ih q; omega
theorem numR_short {m p : Nat} {s : ByteArray} (h : ¬ p + 8 ≤ s.size) : numR m p s = -1 := if_neg (fun h' => h h'.1)
theorem numR_big {m p : Nat} {s : ByteArray} (h : ¬ wideTo (win8 s p) ≤ m) : numR m p s = -1 := if_neg (fun h' => h h'.2)
theorem numR_big' {m p : Nat} {s : ByteArray} (q : Nat) (h : m < wideTo ((win8 s p).drop q)) : numR m p s = -1 := numR_big (by have := wideTo_drop_le (win8 s p) q; omega)
theorem numR_yes {m p : Nat} {s : ByteArray} (h : p + 8 ≤ s.size) (h2 : wideTo (win8 s p) ≤ m) : numR m p s = (wideTo (win8 s p) : Nat) := if_pos ⟨h, h2⟩
end Go.Proofs.Lx
