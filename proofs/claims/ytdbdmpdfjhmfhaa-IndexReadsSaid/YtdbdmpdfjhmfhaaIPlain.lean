/- Plain law of the index layer: tables, and when they are formed. -/
namespace Go.Proofs.Lx
/-- an entry -/
structure En where
  frm : Int
  to : Int
  ver : Int
  at_ : Int
  bytes : ByteArray
/-- what a formed table's entry may not be, behind a place, in a file of a size -/
def EnBad (f size : Int) (x : En) : Prop :=
  x.frm < f ∨ x.frm < 0 ∨ x.to < x.frm ∨ size < x.to ∨ x.ver < 1 ∨ 4 < x.ver ∨ x.at_ < 0 ∨ 65536 < x.at_ ∨ 1048576 < (x.bytes.size : Int) ∨ (0 < (x.bytes.size : Int) ∧ x.ver ≠ 1)
def FormedGo (f size : Int) : List En → Prop
  | [] => True
  | x :: L => ¬ EnBad f size x ∧ FormedGo x.to size L
def FormedT (deep size : Int) (L : List En) : Prop := (1 ≤ deep ∧ deep ≤ 4096) ∧ (0 ≤ size ∧ size ≤ 1048576) ∧ L.length ≤ 4096 ∧ FormedGo 0 size L
def FewT (L : List En) : Prop := (∀ i x, i < 20 → L[i]? = some x → x.bytes.size ≤ 200) ∧ L.length ≤ 12
end Go.Proofs.Lx
