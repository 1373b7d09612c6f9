/- Plain laws of the UTF layer: the run of the steps over bytes. -/
import Derived.Test.YtlckidgeooiboaaUPlain
namespace Go.Proofs.Lw
/-- the state behind some bytes -/
def urun (st : Int) : List UInt8 → Int
  | [] => st
  | b :: l => urun (ustep st b.toNat) l
theorem urun_append (st : Int) (l m : List UInt8) : urun st (l ++ m) = urun (urun st l) m := by
  induction l generalizing st with
  | nil => rfl
  | cons b l ih => simp only [List.cons_append, urun]; exact ih _
def uright (l : List UInt8) : Bool := urun 0 l == 0
/-- how many bytes until the steps die -/
def ulive (st : Int) : List UInt8 → Nat
  | [] => 0
  | b :: l => if ustep st b.toNat = 8 then 0 else ulive (ustep st b.toNat) l + 1
theorem ulive_le (st : Int) (l : List UInt8) : ulive st l ≤ l.length := by
  induction l generalizing st with
  | nil => simp [ulive]
  | cons b l ih => unfold ulive; split <;> simp; exact ih _
/-- if the steps do not die within l, they go on behind it -/
def Lives (st : Int) : List UInt8 → Prop
  | [] => True
  | b :: l => ustep st b.toNat ≠ 8 ∧ Lives (ustep st b.toNat) l
theorem lives_append (st : Int) (l m : List UInt8) : Lives st (l ++ m) ↔ Lives st l ∧ Lives (urun st l) m := by
  induction l generalizing st with
  | nil => simp [Lives, urun]
  | cons b l ih => simp only [List.cons_append, Lives, urun, ih, and_assoc]
theorem ulive_append (st : Int) (l m : List UInt8) (h : Lives st l) : ulive st (l ++ m) = l.length + ulive (urun st l) m := by
  induction l generalizing st with
  | nil => simp [urun]
  | cons b l ih =>
    obtain ⟨h1, h2⟩ := h
    simp only [List.cons_append, ulive, if_neg h1, urun, ih _ h2, List.length_cons]; omega
theorem ulive_of_lives (st : Int) (l : List UInt8) (h : Lives st l) : ulive st l = l.length := by
  have := ulive_append st l [] h; simpa [ulive] using this
theorem ulive_dies (st : Int) (l m : List UInt8) (b : UInt8) (h : Lives st l) (hd : ustep (urun st l) b.toNat = 8) : ulive st (l ++ b :: m) = l.length := by
  rw [ulive_append st l _ h]; simp [ulive, hd]
theorem ustep_dead (b : UInt8) : ustep 8 b.toNat = 8 := by
  simp [ustep, unext]
theorem urun_dead (l : List UInt8) : urun 8 l = 8 := by
  induction l with
  | nil => rfl
  | cons b l ih => rw [urun, ustep_dead, ih]
theorem take_snoc (s : ByteArray) (k : Nat) (h : k < s.size) : s.data.toList.take (k + 1) = s.data.toList.take k ++ [s[k]] := by
  rw [List.take_succ_eq_append_getElem (by simpa using h)]; rfl
theorem urun_snoc (st : Int) (s : ByteArray) (k : Nat) (h : k < s.size) : urun st (s.data.toList.take (k + 1)) = ustep (urun st (s.data.toList.take k)) s[k].toNat := by
  rw [take_snoc s k h, urun_append]; rfl
theorem lives_snoc (st : Int) (s : ByteArray) (k : Nat) (h : k < s.size) : Lives st (s.data.toList.take (k + 1)) ↔ Lives st (s.data.toList.take k) ∧ ustep (urun st (s.data.toList.take k)) s[k].toNat ≠ 8 := by
  rw [take_snoc s k h, lives_append]; simp [Lives]
theorem drop_cons (s : ByteArray) (k : Nat) (h : k < s.size) : s.data.toList.drop k = s[k] :: s.data.toList.drop (k + 1) := by
  rw [List.drop_eq_getElem_cons (by simpa using h)]; rfl
theorem dies_at (s : ByteArray) (k : Nat) (h : k < s.size) (hl : Lives 0 (s.data.toList.take k)) (hd : ustep (urun 0 (s.data.toList.take k)) s[k].toNat = 8) :
    ulive 0 s.data.toList = k ∧ urun 0 s.data.toList = 8 := by
  have e : s.data.toList = s.data.toList.take k ++ s[k] :: s.data.toList.drop (k + 1) := by rw [← drop_cons s k h, List.take_append_drop]
  have hk : (s.data.toList.take k).length = k := by simp; omega
  constructor
  · rw [e, ulive_dies _ _ _ _ hl hd, hk]
  · rw [e, urun_append, urun, hd, urun_dead]
theorem lives_all (s : ByteArray) (k : Nat) (h : s.size ≤ k) (hl : Lives 0 (s.data.toList.take k)) :
    ulive 0 s.data.toList = s.size := by
  rw [List.take_of_length_le (by simpa using h)] at hl
  rw [ulive_of_lives _ _ hl]; rfl
end Go.Proofs.Lw
