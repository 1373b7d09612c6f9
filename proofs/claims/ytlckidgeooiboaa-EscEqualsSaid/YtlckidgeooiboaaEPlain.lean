/- Plain functions of the strings' layer: what the program's functions compute. No program in sight. -/
import Derived.Test.YtlckidgeooiboaaUPlain5
namespace Go.Proofs.Le
open Go.Proofs.Lw
/-- a digit's number; -1 -/
def hexP (c : Int) : Int := if 48 ≤ c ∧ c ≤ 57 then c - 48 else if 97 ≤ c ∧ c ≤ 102 then c - 87 else if 65 ≤ c ∧ c ≤ 70 then c - 55 else -1
theorem hexP_bd (c : Int) : -1 ≤ hexP c ∧ hexP c ≤ 15 := by unfold hexP; repeat' split
                                                            all_goals omega
/-- digits one behind the other, from a number on; -1 -/
def unitA (n : Int) : List UInt8 → Int
  | [] => n
  | b :: l => if hexP b.toNat < 0 then -1 else unitA (n * 16 + hexP b.toNat) l
/-- the number of the four digits with which some bytes begin; -1 -/
def unitP (l : List UInt8) : Int := if l.length < 4 then -1 else unitA 0 (l.take 4)
theorem unitA_bd (l : List UInt8) (n : Int) (h0 : 0 ≤ n) : unitA n l = -1 ∨ (0 ≤ unitA n l ∧ unitA n l < (n + 1) * 16 ^ l.length) := by
  induction l generalizing n with
  | nil => right; simp [unitA]; omega
  | cons b l ih =>
    unfold unitA
    have hb := hexP_bd b.toNat
    split
    · left; rfl
    · rcases ih (n * 16 + hexP b.toNat) (by omega) with h | ⟨h1, h2⟩
      · left; exact h
      · right
        refine ⟨h1, Int.lt_of_lt_of_le h2 ?_⟩
        have e : (n + 1) * 16 ^ (b :: l).length = ((n + 1) * 16) * 16 ^ l.length := by rw [List.length_cons, Int.pow_succ, Int.mul_assoc, Int.mul_comm (16 ^ l.length) 16]
        rw [e]
        exact Int.mul_le_mul_of_nonneg_right (by omega) (Int.pow_nonneg (by omega))
theorem unitP_bd (l : List UInt8) : -1 ≤ unitP l ∧ unitP l < 65536 := by
  unfold unitP
  split
  · omega
  · rcases unitA_bd (l.take 4) 0 (by omega) with h | ⟨h1, h2⟩
    · omega
    · have hl : (l.take 4).length = 4 := by rw [List.length_take]; omega
      rw [hl] at h2
      have : (0 + 1) * (16 : Int) ^ 4 = 65536 := by decide
      omega
/-- what a sign behind a 5c is; -1 -/
def simpleP (c : Int) : Int := if c = 34 ∨ c = 92 ∨ c = 47 then c else if c = 98 then 8 else if c = 102 then 12 else if c = 110 then 10 else if c = 114 then 13 else if c = 116 then 9 else -1
/-- 5c 75 behind which a unit stands -/
def lowP (l : List UInt8) : Int := if l.take 2 = [92, 117] then unitP (l.drop 2) else -1
/-- the scalar of the unit, or the two, and how many bytes they are -/
def unitsP (l : List UInt8) : Int × Nat :=
  if unitP (l.drop 2) < 55296 ∨ 57343 < unitP (l.drop 2) then (unitP (l.drop 2), 6)
  else if unitP (l.drop 2) < 56320 ∧ 56320 ≤ lowP (l.drop 6) ∧ lowP (l.drop 6) ≤ 57343 then (65536 + (unitP (l.drop 2) - 55296) * 1024 + (lowP (l.drop 6) - 56320), 12)
  else (65533, 6)
/-- what stands behind a 5c -/
def escP (l : List UInt8) : List UInt8 → Int × Nat
  | [] => (-1, 0)
  | b :: _ => if b = 117 then unitsP l else (simpleP b.toNat, 2)
/-- the character with which some bytes begin, and how many bytes it is -/
def charP : List UInt8 → Int × Nat
  | [] => (-1, 0)
  | a :: r =>
    if a = 34 ∨ a < 32 then (-1, 0)
    else if a ≠ 92 then (if (uscal (a :: r)).2 = 0 then -1 else (uscal (a :: r)).1, (uscal (a :: r)).2)
    else escP (a :: r) r
end Go.Proofs.Le
