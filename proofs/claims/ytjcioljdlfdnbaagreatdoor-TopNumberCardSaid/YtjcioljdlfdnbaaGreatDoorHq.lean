/- Closing tactics, as default arguments; no conditions. -/
import Derived.Below
namespace Go.Proofs.Tryz
end Go.Proofs.Tryz
namespace Go.Proofs
theorem oM {p : Prop} (h : p := by omega) : p := h
theorem sM {p : Prop} (h : p := by simp) : p := h
theorem aM {p : Prop} (h : p := by assumption) : p := h
theorem tq3 {p : Prop} (h : p := by first | (simp; done) | (simp; omega) | omega | (simp [World.setCell]; omega)) : p := h
theorem tq4 {p : Prop} (h : p := by (repeat' (first | refine Below.setCell ?_ tq3 _ | refine Below.alloc ?_ tq3 _ | refine below_drewN' ?_ _ | refine Below.drew ?_ | exact Hid.out aM | exact Below.refl _ _))) : p := h
theorem tq5 {p : Prop} (h : p := by first | (simp; done) | (simp; omega) | omega) : p := h
theorem tq6 {p : Prop} (h : p := by (repeat' (first | exact Below.refl _ _ | exact Hid.out aM | refine Below.alloc ?_ tq5 _ | refine Below.setCell ?_ tq5 _ | refine below_drewN' ?_ _ | refine Below.drew ?_))) : p := h
theorem tq7 {p : Prop} (h : p := by intro e; injection e with e1 e2 <;> omega) : p := h
theorem tq8 {p : Prop} (h : p := by repeat' (first | assumption | refine ls_drew ?_ | refine ls_alloc ?_ _)) : p := h
theorem tq9 {p : Prop} (h : p := by intro e; injection e with e1 e2; omega) : p := h
theorem hid {p : Prop} (h : p) : RowKit.Hid p := h
theorem qO {w : World} {a b : Addr} {v : Value} (h : a ≠ b) : (w.setCell a v).cell? b = w.cell? b := World.cell?_setCell_other _ _ _ _ h
theorem qF {w : World} {a b : Addr} {v : Value} : (w.setCell a v).frozen? b = w.frozen? b := World.frozen?_setCell _ _ _ _
theorem qR {B : Nat} {w : World} : RowKit.Below B w w := .refl _ _
theorem qL {n : Nat} : n ≤ n := Nat.le_refl _
theorem qG (x : Act) : ∃ u : Nat → Value, ∀ i, x.tmps.getD i undef = u i := ⟨_, fun _ => rfl⟩
end Go.Proofs
namespace Go.RowKit
theorem Below.cl {B : Nat} {w w' : World} (h : Below B w w') (b i : Nat) (k : b < B := by first | (simp; done) | (simp; omega) | omega | (simp [World.setCell]; omega)) : w'.cell? ⟨b, i, none⟩ = w.cell? ⟨b, i, none⟩ := h.cell (p := ⟨b, i, none⟩) k
theorem Below.fz {B : Nat} {w w' : World} (h : Below B w w') (b i : Nat) (k : b < B := by first | (simp; done) | (simp; omega) | omega | (simp [World.setCell]; omega)) : w'.frozen? ⟨b, i, none⟩ = w.frozen? ⟨b, i, none⟩ := h.frozen (p := ⟨b, i, none⟩) k
end Go.RowKit
