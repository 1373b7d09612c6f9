/- Plain functions of the strings' layer: how a text is written between two marks. -/
import Derived.Test.YtlckidgeooiboaaEPlain2
namespace Go.Proofs.Le
open Go.Proofs.Lw
def hexd (n : Nat) : UInt8 := UInt8.ofNat (if n < 10 then 48 + n else 87 + n)
/-- a byte below 20 -/
def ctlB (c : Nat) : List UInt8 :=
  if c = 8 then [92, 98] else if c = 12 then [92, 102] else if c = 10 then [92, 110] else if c = 13 then [92, 114] else if c = 9 then [92, 116]
  else [92, 117, 48, 48, hexd (c / 16), hexd (c % 16)]
/-- a byte between two marks -/
def escB (m c : UInt8) : List UInt8 := if c = m ∨ c = 92 then [92, c] else if c < 32 then ctlB c.toNat else [c]
def escL (m : UInt8) : List UInt8 → List UInt8
  | [] => []
  | c :: l => escB m c ++ escL m l
theorem escL_append (m : UInt8) (l k : List UInt8) : escL m (l ++ k) = escL m l ++ escL m k := by
  induction l with
  | nil => rfl
  | cons c l ih => simp [escL, ih]
theorem ctlB_len (c : Nat) : (ctlB c).length ≤ 6 := by
  unfold ctlB
  repeat' split
  all_goals simp
theorem escB_len (m c : UInt8) : (escB m c).length ≤ 6 := by
  unfold escB
  split
  · simp
  · split
    · exact ctlB_len _
    · simp
theorem escL_len (m : UInt8) (l : List UInt8) : (escL m l).length ≤ 6 * l.length := by
  induction l with
  | nil => simp [escL]
  | cons c l ih => have := escB_len m c; simp only [escL, List.length_append, List.length_cons]; omega
/-- the text between two marks -/
def betL (m : UInt8) (l : List UInt8) : List UInt8 := [m] ++ escL m l ++ [m]
end Go.Proofs.Le
