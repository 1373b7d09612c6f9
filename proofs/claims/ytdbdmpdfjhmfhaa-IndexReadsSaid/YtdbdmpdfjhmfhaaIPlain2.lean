/- Plain law of the index layer: the sum, and a number's eight bytes. -/
import Derived.Test.YtdbdmpdfjhmfhaaIPlain
namespace Go.Proofs.Lx
def sstep (h b : Nat) : Nat := ((h ^^^ b) * 1099511628211) % 18446744073709551616
/-- the sum from h on -/
def sumF (h : Nat) : List UInt8 → Nat
  | [] => h
  | b :: l => sumF (sstep h b.toNat) l
def basis : Nat := 14695981039346656037
def sumL (l : List UInt8) : Nat := sumF basis l
theorem sumF_append (h : Nat) (l m : List UInt8) : sumF h (l ++ m) = sumF (sumF h l) m := by
  induction l generalizing h with
  | nil => rfl
  | cons b l ih => simp only [List.cons_append, sumF]; exact ih _
theorem sstep_lt (h b : Nat) : sstep h b < 18446744073709551616 := by unfold sstep; exact Nat.mod_lt _ (by decide)
theorem sumF_lt (h : Nat) (l : List UInt8) (hh : h < 18446744073709551616) : sumF h l < 18446744073709551616 := by
  induction l generalizing h with
  | nil => exact hh
  | cons b l ih => exact ih _ (sstep_lt _ _)
theorem take_snoc (s : ByteArray) (k : Nat) (h : k < s.size) : s.data.toList.take (k + 1) = s.data.toList.take k ++ [s[k]] := by
  rw [List.take_succ_eq_append_getElem (by simpa using h)]; rfl
theorem sumF_snoc (h : Nat) (s : ByteArray) (k : Nat) (hk : k < s.size) : sumF h (s.data.toList.take (k + 1)) = sstep (sumF h (s.data.toList.take k)) s[k].toNat := by
  rw [take_snoc s k hk, sumF_append]; rfl
end Go.Proofs.Lx
namespace Go.Proofs.Lx
/-- the first j of a number's bytes, the lowest first -/
def eightTo (n : Nat) : Nat → List UInt8
  | 0 => []
  | j + 1 => eightTo n j ++ [UInt8.ofNat (n / 256 ^ j % 256)]
def eight (n : Nat) : List UInt8 := eightTo n 8
theorem eightTo_len (n j : Nat) : (eightTo n j).length = j := by
  induction j with
  | zero => rfl
  | succ j ih => simp [eightTo, ih]
theorem eight_len (n : Nat) : (eight n).length = 8 := eightTo_len n 8
def eights : List Nat → List UInt8
  | [] => []
  | n :: l => eight n ++ eights l
theorem eights_len (l : List Nat) : (eights l).length = 8 * l.length := by
  induction l with
  | nil => rfl
  | cons n l ih => simp [eights, eight_len, ih]; omega
theorem eights_append (l m : List Nat) : eights (l ++ m) = eights l ++ eights m := by
  induction l with
  | nil => rfl
  | cons n l ih => simp [eights, ih]
theorem eights_snoc (l : List Nat) (k : Nat) (h : k < l.length) : eights (l.take (k + 1)) = eights (l.take k) ++ eight l[k] := by
  rw [List.take_succ_eq_append_getElem h, eights_append]; simp [eights]
end Go.Proofs.Lx
