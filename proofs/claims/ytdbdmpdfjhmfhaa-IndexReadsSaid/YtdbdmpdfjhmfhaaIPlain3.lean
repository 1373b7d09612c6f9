/- Plain law of the index layer: a table's bytes. -/
import Derived.Test.YtdbdmpdfjhmfhaaIPlain2
namespace Go.Proofs.Lx
def nameL : List UInt8 := [108, 97, 99, 101, 119, 111, 114, 107]
/-- an entry's bytes -/
def enB (x : En) : List UInt8 := eights [x.frm.toNat, x.to.toNat] ++ [UInt8.ofNat x.ver.toNat] ++ eights [x.at_.toNat, x.bytes.size] ++ x.bytes.data.toList
def ensB : List En → List UInt8
  | [] => []
  | x :: L => enB x ++ ensB L
theorem ensB_append (L M : List En) : ensB (L ++ M) = ensB L ++ ensB M := by
  induction L with
  | nil => rfl
  | cons x L ih => simp [ensB, ih]
theorem ensB_snoc (L : List En) (k : Nat) (x : En) (h : L[k]? = some x) : ensB (L.take (k + 1)) = ensB (L.take k) ++ enB x := by
  have hk : k < L.length := (List.getElem?_eq_some_iff.1 h).1
  have e : L[k] = x := (List.getElem?_eq_some_iff.1 h).2
  rw [List.take_succ_eq_append_getElem hk, ensB_append, e]; simp [ensB]
def fixB (deep size len : Nat) : List UInt8 := nameL ++ eights [deep, size, len]
/-- a table's bytes without their sum -/
def headB (deep size : Nat) (L : List En) : List UInt8 := fixB deep size L.length ++ ensB L
def writeB (deep size : Nat) (L : List En) : List UInt8 := headB deep size L ++ eights [sumL (headB deep size L)]
/-- the entries' share of the length -/
def lens : List En → Nat
  | [] => 0
  | x :: L => 33 + x.bytes.size + lens L
theorem enB_len (x : En) : (enB x).length = 33 + x.bytes.size := by
  have : x.bytes.data.toList.length = x.bytes.size := by simp
  simp only [enB, List.length_append, eights_len, List.length_cons, List.length_nil, this]
theorem ensB_len (L : List En) : (ensB L).length = lens L := by
  induction L with
  | nil => rfl
  | cons x L ih => simp [ensB, lens, enB_len, ih]
theorem lens_append (L M : List En) : lens (L ++ M) = lens L + lens M := by
  induction L with
  | nil => simp [lens]
  | cons x L ih => simp [lens, ih]; omega
theorem lens_snoc (L : List En) (k : Nat) (x : En) (h : L[k]? = some x) : lens (L.take (k + 1)) = lens (L.take k) + (33 + x.bytes.size) := by
  have hk : k < L.length := (List.getElem?_eq_some_iff.1 h).1
  have e : L[k] = x := (List.getElem?_eq_some_iff.1 h).2
  rw [List.take_succ_eq_append_getElem hk, lens_append, e]; simp [lens]
theorem fixB_len (d z n : Nat) : (fixB d z n).length = 32 := by simp [fixB, nameL, eights_len]
theorem headB_len (d z : Nat) (L : List En) : (headB d z L).length = 32 + lens L := by simp [headB, fixB_len, ensB_len]
theorem writeB_len (d z : Nat) (L : List En) : (writeB d z L).length = 40 + lens L := by simp [writeB, headB_len, eights_len]; omega
theorem writeB_name (d z : Nat) (L : List En) : (writeB d z L).take 8 = nameL := by
  simp [writeB, headB, fixB, nameL]
/-- few and short entries -/
theorem lens_few (L : List En) (h : FewT L) (k : Nat) : lens (L.take k) ≤ 233 * k := by
  induction k with
  | zero => simp [lens]
  | succ k ih =>
    by_cases hk : k < L.length
    · have hx : L[k]? = some L[k] := List.getElem?_eq_getElem hk
      rw [lens_snoc L k _ hx]
      have := h.1 k _ (by have := h.2; omega) hx
      omega
    · rw [List.take_of_length_le (by omega)] at *; omega
end Go.Proofs.Lx
