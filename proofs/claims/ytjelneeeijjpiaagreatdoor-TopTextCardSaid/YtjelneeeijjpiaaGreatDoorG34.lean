/- TopText: walks and plain laws, part 34: lemmas on what the functions that the law comes to compute. -/
import Derived.Test.YtjelneeeijjpiaaGreatDoorG18
import Derived.Test.YtjelneeeijjpiaaGreatDoorG05
import Derived.Test.YtjelneeeijjpiaaGreatDoorG25
import Derived.Test.YtjelneeeijjpiaaGreatDoorG33
import Derived.Test.YtjelneeeijjpiaaGreatDoorG17
set_option linter.unusedVariables false
set_option linter.unusedSimpArgs false
section
namespace Go.Proofs.YtjelneeeijjpiaaGreatDoor
open Go.RowKit
def TxtP (V t : ByteArray) : Prop := ∀ W : World, Calls Tryz.prog 104 #[.string V] W fun e w' => e = .returned (.tuple #[.string t, .int .i64 0]) ∧ Below W.heap.size W w'
def QuoP (t q : ByteArray) : Prop := ∀ W : World, Calls Tryz.prog 304 #[.string t] W fun e w' => e = .returned (.tuple #[.string q, .int .i64 0]) ∧ Below W.heap.size W w'
set_option maxRecDepth 100000 in
set_option maxHeartbeats 2000000 in
theorem ctext_1 (p n L : Nat) (T V : ByteArray) (hD : Doc T V n L) (hV : 0 < V.size) (hc : ((V[0]'hV).toNat : Int) = 34) (t : ByteArray) (hT : TxtP V t) (w : World) (h : Ix w p T n) : Calls Tryz.prog 66 #[.agg #[.pointer (some ⟨p, 0, none⟩), .int .i64 1]] w fun e w' => e = .returned (.tuple #[.string t, .int .i64 0]) ∧ Below w.heap.size w w' := by
  have hn := hD.n3
  have hn1 := hD.n1
  have hL := hD.hL
  have hs := hD.hn
  have hv := hD.vs
  go_enter Tryz.func66, Tryz.ntmps66
  go_wp2_with fail
  refine (kind_s p n L T V hD hV hc _ (h.below (by (repeat' (first | refine Below.setCell ?_ (by first | (simp; done) | (simp; omega) | omega | (simp [World.setCell]; omega)) _ | refine Below.alloc ?_ (by first | (simp; done) | (simp; omega) | omega | (simp [World.setCell]; omega)) _ | refine below_drewN' ?_ _ | refine Below.drew ?_ | exact Hid.out (by assumption) | exact Below.refl _ _))))).mono ?_; rintro e w1 ⟨rfl, hb1⟩
  have s1 := hb1.size; try simp at s1
  try (have l1_0_0_0 : w.heap.size < w1.heap.size := by omega)
  try (have l1_0_0_1 : w.heap.size < w1.heap.size + 1 := by omega)
  try (have l1_0_0_2 : w.heap.size < w1.heap.size + 1 + 1 := by omega)
  try (have e1_0_0_0 := hb1.cell (p := ⟨w.heap.size, 0, none⟩) (by first | (simp; done) | (simp; omega) | omega | (simp [World.setCell]; omega)); simp [go_sem, *] at e1_0_0_0)
  try (have f1_0_0_0 := hb1.frozen (p := ⟨w.heap.size, 0, none⟩) (by first | (simp; done) | (simp; omega) | omega | (simp [World.setCell]; omega)); simp [go_sem, *] at f1_0_0_0)
  try (have e1_0_0_1 := hb1.cell (p := ⟨w.heap.size, 1, none⟩) (by first | (simp; done) | (simp; omega) | omega | (simp [World.setCell]; omega)); simp [go_sem, *] at e1_0_0_1)
  try (have f1_0_0_1 := hb1.frozen (p := ⟨w.heap.size, 1, none⟩) (by first | (simp; done) | (simp; omega) | omega | (simp [World.setCell]; omega)); simp [go_sem, *] at f1_0_0_1)
  have HB1 := bel_step (w := w) (by (repeat' (first | refine Below.setCell ?_ (by first | (simp; done) | (simp; omega) | omega | (simp [World.setCell]; omega)) _ | refine Below.alloc ?_ (by first | (simp; done) | (simp; omega) | omega | (simp [World.setCell]; omega)) _ | refine below_drewN' ?_ _ | refine Below.drew ?_ | exact Hid.out (by assumption) | exact Below.refl _ _))) hb1
  clear hb1
  go_wp2_with fail
  refine (raw_1 p n L T V hD _ (h.below (by (repeat' (first | refine Below.setCell ?_ (by first | (simp; done) | (simp; omega) | omega | (simp [World.setCell]; omega)) _ | refine Below.alloc ?_ (by first | (simp; done) | (simp; omega) | omega | (simp [World.setCell]; omega)) _ | refine below_drewN' ?_ _ | refine Below.drew ?_ | exact Hid.out (by assumption) | exact Below.refl _ _))))).mono ?_; rintro e w2 ⟨rfl, hb2⟩
  have s2 := hb2.size; try simp at s2
  try (have l2_0_0_0 : w.heap.size < w2.heap.size := by omega)
  try (have l2_0_0_1 : w.heap.size < w2.heap.size + 1 := by omega)
  try (have l2_0_0_2 : w.heap.size < w2.heap.size + 1 + 1 := by omega)
  try (have e2_0_0_0 := hb2.cell (p := ⟨w.heap.size, 0, none⟩) (by first | (simp; done) | (simp; omega) | omega | (simp [World.setCell]; omega)); simp [go_sem, *] at e2_0_0_0)
  try (have f2_0_0_0 := hb2.frozen (p := ⟨w.heap.size, 0, none⟩) (by first | (simp; done) | (simp; omega) | omega | (simp [World.setCell]; omega)); simp [go_sem, *] at f2_0_0_0)
  try (have e2_0_0_1 := hb2.cell (p := ⟨w.heap.size, 1, none⟩) (by first | (simp; done) | (simp; omega) | omega | (simp [World.setCell]; omega)); simp [go_sem, *] at e2_0_0_1)
  try (have f2_0_0_1 := hb2.frozen (p := ⟨w.heap.size, 1, none⟩) (by first | (simp; done) | (simp; omega) | omega | (simp [World.setCell]; omega)); simp [go_sem, *] at f2_0_0_1)
  have HB2 := bel_step (w := w) (by (repeat' (first | refine Below.setCell ?_ (by first | (simp; done) | (simp; omega) | omega | (simp [World.setCell]; omega)) _ | refine Below.alloc ?_ (by first | (simp; done) | (simp; omega) | omega | (simp [World.setCell]; omega)) _ | refine below_drewN' ?_ _ | refine Below.drew ?_ | exact Hid.out (by assumption) | exact Below.refl _ _))) hb2
  clear hb2
  go_wp2_with fail
  refine (hT _).mono ?_; rintro e w3 ⟨rfl, hb3⟩
  have s3 := hb3.size; try simp at s3
  try (have l3_0_0_0 : w.heap.size < w3.heap.size := by omega)
  try (have l3_0_0_1 : w.heap.size < w3.heap.size + 1 := by omega)
  try (have l3_0_0_2 : w.heap.size < w3.heap.size + 1 + 1 := by omega)
  try (have e3_0_0_0 := hb3.cell (p := ⟨w.heap.size, 0, none⟩) (by first | (simp; done) | (simp; omega) | omega | (simp [World.setCell]; omega)); simp [go_sem, *] at e3_0_0_0)
  try (have f3_0_0_0 := hb3.frozen (p := ⟨w.heap.size, 0, none⟩) (by first | (simp; done) | (simp; omega) | omega | (simp [World.setCell]; omega)); simp [go_sem, *] at f3_0_0_0)
  try (have e3_0_0_1 := hb3.cell (p := ⟨w.heap.size, 1, none⟩) (by first | (simp; done) | (simp; omega) | omega | (simp [World.setCell]; omega)); simp [go_sem, *] at e3_0_0_1)
  try (have f3_0_0_1 := hb3.frozen (p := ⟨w.heap.size, 1, none⟩) (by first | (simp; done) | (simp; omega) | omega | (simp [World.setCell]; omega)); simp [go_sem, *] at f3_0_0_1)
  have HB3 := bel_step (w := w) (by (repeat' (first | refine Below.setCell ?_ (by first | (simp; done) | (simp; omega) | omega | (simp [World.setCell]; omega)) _ | refine Below.alloc ?_ (by first | (simp; done) | (simp; omega) | omega | (simp [World.setCell]; omega)) _ | refine below_drewN' ?_ _ | refine Below.drew ?_ | exact Hid.out (by assumption) | exact Below.refl _ _))) hb3
  clear hb3
  go_wp2_with fail
  go_ret2
  exact ⟨rfl, by (repeat' (first | refine Below.setCell ?_ (by first | (simp; done) | (simp; omega) | omega | (simp [World.setCell]; omega)) _ | refine Below.alloc ?_ (by first | (simp; done) | (simp; omega) | omega | (simp [World.setCell]; omega)) _ | refine below_drewN' ?_ _ | refine Below.drew ?_ | exact Hid.out (by assumption) | exact Below.refl _ _))⟩
set_option maxRecDepth 100000 in
set_option maxHeartbeats 2000000 in
theorem quoted_1 (V t q : ByteArray) (hT : TxtP V t) (hQ : QuoP t q) (w : World) : Calls Tryz.prog 255 #[.string V] w fun e w' => e = .returned (.string q) ∧ Below w.heap.size w w' := by
  go_enter Tryz.func255, Tryz.ntmps255
  go_wp2_with fail
  refine (hT _).mono ?_; rintro e w1 ⟨rfl, hb1⟩
  have s1 := hb1.size; try simp at s1
  have HB1 := bel_step (w := w) (by (repeat' (first | refine Below.setCell ?_ (by first | (simp; done) | (simp; omega) | omega | (simp [World.setCell]; omega)) _ | refine Below.alloc ?_ (by first | (simp; done) | (simp; omega) | omega | (simp [World.setCell]; omega)) _ | refine below_drewN' ?_ _ | refine Below.drew ?_ | exact Hid.out (by assumption) | exact Below.refl _ _))) hb1
  clear hb1
  go_wp2_with fail
  refine (hQ _).mono ?_; rintro e w2 ⟨rfl, hb2⟩
  have s2 := hb2.size; try simp at s2
  have HB2 := bel_step (w := w) (by (repeat' (first | refine Below.setCell ?_ (by first | (simp; done) | (simp; omega) | omega | (simp [World.setCell]; omega)) _ | refine Below.alloc ?_ (by first | (simp; done) | (simp; omega) | omega | (simp [World.setCell]; omega)) _ | refine below_drewN' ?_ _ | refine Below.drew ?_ | exact Hid.out (by assumption) | exact Below.refl _ _))) hb2
  clear hb2
  go_wp2_with fail
  go_ret
  exact ⟨rfl, by (repeat' (first | refine Below.setCell ?_ (by first | (simp; done) | (simp; omega) | omega | (simp [World.setCell]; omega)) _ | refine Below.alloc ?_ (by first | (simp; done) | (simp; omega) | omega | (simp [World.setCell]; omega)) _ | refine below_drewN' ?_ _ | refine Below.drew ?_ | exact Hid.out (by assumption) | exact Below.refl _ _))⟩
set_option maxRecDepth 100000 in
set_option maxHeartbeats 2000000 in
theorem leaf_s (p n L : Nat) (T V : ByteArray) (hD : Doc T V n L) (hV : 0 < V.size) (hc : ((V[0]'hV).toNat : Int) = 34) (t : ByteArray) (hT : TxtP V t) (q : ByteArray) (hQ : QuoP t q) (w : World) (h : Ix w p T n) : Calls Tryz.prog 194 #[.agg #[.pointer (some ⟨p, 0, none⟩), .int .i64 1]] w fun e w' => e = .returned (.string q) ∧ Below w.heap.size w w' := by
  have hn := hD.n3
  have hn1 := hD.n1
  have hL := hD.hL
  have hs := hD.hn
  have hv := hD.vs
  go_enter Tryz.func194, Tryz.ntmps194
  go_wp2_with fail
  refine (kind_s p n L T V hD hV hc _ (h.below (by (repeat' (first | refine Below.setCell ?_ (by first | (simp; done) | (simp; omega) | omega | (simp [World.setCell]; omega)) _ | refine Below.alloc ?_ (by first | (simp; done) | (simp; omega) | omega | (simp [World.setCell]; omega)) _ | refine below_drewN' ?_ _ | refine Below.drew ?_ | exact Hid.out (by assumption) | exact Below.refl _ _))))).mono ?_; rintro e w1 ⟨rfl, hb1⟩
  have s1 := hb1.size; try simp at s1
  try (have l1_0_0_0 : w.heap.size < w1.heap.size := by omega)
  try (have l1_0_0_1 : w.heap.size < w1.heap.size + 1 := by omega)
  try (have l1_0_0_2 : w.heap.size < w1.heap.size + 1 + 1 := by omega)
  try (have e1_0_0_0 := hb1.cell (p := ⟨w.heap.size, 0, none⟩) (by first | (simp; done) | (simp; omega) | omega | (simp [World.setCell]; omega)); simp [go_sem, *] at e1_0_0_0)
  try (have f1_0_0_0 := hb1.frozen (p := ⟨w.heap.size, 0, none⟩) (by first | (simp; done) | (simp; omega) | omega | (simp [World.setCell]; omega)); simp [go_sem, *] at f1_0_0_0)
  try (have e1_0_0_1 := hb1.cell (p := ⟨w.heap.size, 1, none⟩) (by first | (simp; done) | (simp; omega) | omega | (simp [World.setCell]; omega)); simp [go_sem, *] at e1_0_0_1)
  try (have f1_0_0_1 := hb1.frozen (p := ⟨w.heap.size, 1, none⟩) (by first | (simp; done) | (simp; omega) | omega | (simp [World.setCell]; omega)); simp [go_sem, *] at f1_0_0_1)
  have HB1 := bel_step (w := w) (by (repeat' (first | refine Below.setCell ?_ (by first | (simp; done) | (simp; omega) | omega | (simp [World.setCell]; omega)) _ | refine Below.alloc ?_ (by first | (simp; done) | (simp; omega) | omega | (simp [World.setCell]; omega)) _ | refine below_drewN' ?_ _ | refine Below.drew ?_ | exact Hid.out (by assumption) | exact Below.refl _ _))) hb1
  clear hb1
  go_wp2_with fail
  refine (raw_1 p n L T V hD _ (h.below (by (repeat' (first | refine Below.setCell ?_ (by first | (simp; done) | (simp; omega) | omega | (simp [World.setCell]; omega)) _ | refine Below.alloc ?_ (by first | (simp; done) | (simp; omega) | omega | (simp [World.setCell]; omega)) _ | refine below_drewN' ?_ _ | refine Below.drew ?_ | exact Hid.out (by assumption) | exact Below.refl _ _))))).mono ?_; rintro e w2 ⟨rfl, hb2⟩
  have s2 := hb2.size; try simp at s2
  try (have l2_0_0_0 : w.heap.size < w2.heap.size := by omega)
  try (have l2_0_0_1 : w.heap.size < w2.heap.size + 1 := by omega)
  try (have l2_0_0_2 : w.heap.size < w2.heap.size + 1 + 1 := by omega)
  try (have e2_0_0_0 := hb2.cell (p := ⟨w.heap.size, 0, none⟩) (by first | (simp; done) | (simp; omega) | omega | (simp [World.setCell]; omega)); simp [go_sem, *] at e2_0_0_0)
  try (have f2_0_0_0 := hb2.frozen (p := ⟨w.heap.size, 0, none⟩) (by first | (simp; done) | (simp; omega) | omega | (simp [World.setCell]; omega)); simp [go_sem, *] at f2_0_0_0)
  try (have e2_0_0_1 := hb2.cell (p := ⟨w.heap.size, 1, none⟩) (by first | (simp; done) | (simp; omega) | omega | (simp [World.setCell]; omega)); simp [go_sem, *] at e2_0_0_1)
  try (have f2_0_0_1 := hb2.frozen (p := ⟨w.heap.size, 1, none⟩) (by first | (simp; done) | (simp; omega) | omega | (simp [World.setCell]; omega)); simp [go_sem, *] at f2_0_0_1)
  have HB2 := bel_step (w := w) (by (repeat' (first | refine Below.setCell ?_ (by first | (simp; done) | (simp; omega) | omega | (simp [World.setCell]; omega)) _ | refine Below.alloc ?_ (by first | (simp; done) | (simp; omega) | omega | (simp [World.setCell]; omega)) _ | refine below_drewN' ?_ _ | refine Below.drew ?_ | exact Hid.out (by assumption) | exact Below.refl _ _))) hb2
  clear hb2
  go_wp2_with fail
  refine (quoted_1 V t q hT hQ _).mono ?_; rintro e w3 ⟨rfl, hb3⟩
  have s3 := hb3.size; try simp at s3
  try (have l3_0_0_0 : w.heap.size < w3.heap.size := by omega)
  try (have l3_0_0_1 : w.heap.size < w3.heap.size + 1 := by omega)
  try (have l3_0_0_2 : w.heap.size < w3.heap.size + 1 + 1 := by omega)
  try (have e3_0_0_0 := hb3.cell (p := ⟨w.heap.size, 0, none⟩) (by first | (simp; done) | (simp; omega) | omega | (simp [World.setCell]; omega)); simp [go_sem, *] at e3_0_0_0)
  try (have f3_0_0_0 := hb3.frozen (p := ⟨w.heap.size, 0, none⟩) (by first | (simp; done) | (simp; omega) | omega | (simp [World.setCell]; omega)); simp [go_sem, *] at f3_0_0_0)
  try (have e3_0_0_1 := hb3.cell (p := ⟨w.heap.size, 1, none⟩) (by first | (simp; done) | (simp; omega) | omega | (simp [World.setCell]; omega)); simp [go_sem, *] at e3_0_0_1)
  try (have f3_0_0_1 := hb3.frozen (p := ⟨w.heap.size, 1, none⟩) (by first | (simp; done) | (simp; omega) | omega | (simp [World.setCell]; omega)); simp [go_sem, *] at f3_0_0_1)
  have HB3 := bel_step (w := w) (by (repeat' (first | refine Below.setCell ?_ (by first | (simp; done) | (simp; omega) | omega | (simp [World.setCell]; omega)) _ | refine Below.alloc ?_ (by first | (simp; done) | (simp; omega) | omega | (simp [World.setCell]; omega)) _ | refine below_drewN' ?_ _ | refine Below.drew ?_ | exact Hid.out (by assumption) | exact Below.refl _ _))) hb3
  clear hb3
  go_wp2_with fail
  go_ret
  exact ⟨rfl, by (repeat' (first | refine Below.setCell ?_ (by first | (simp; done) | (simp; omega) | omega | (simp [World.setCell]; omega)) _ | refine Below.alloc ?_ (by first | (simp; done) | (simp; omega) | omega | (simp [World.setCell]; omega)) _ | refine below_drewN' ?_ _ | refine Below.drew ?_ | exact Hid.out (by assumption) | exact Below.refl _ _))⟩
set_option maxRecDepth 100000 in
set_option maxHeartbeats 2000000 in
theorem leaf_n (p n L : Nat) (T V : ByteArray) (hD : Doc T V n L) (hV : 0 < V.size) (c : Int) (hc : ((V[0]'hV).toNat : Int) = c) (hk : c = 45 ∨ 48 ≤ c ∧ c ≤ 57) (w : World) (h : Ix w p T n) : Calls Tryz.prog 194 #[.agg #[.pointer (some ⟨p, 0, none⟩), .int .i64 1]] w fun e w' => e = .returned (.string V) ∧ Below w.heap.size w w' := by
  have hn := hD.n3
  have hn1 := hD.n1
  have hL := hD.hL
  have hs := hD.hn
  have hv := hD.vs
  go_enter Tryz.func194, Tryz.ntmps194
  go_wp2_with fail
  refine (kind_n p n L T V hD hV c hc hk _ (h.below (by (repeat' (first | refine Below.setCell ?_ (by first | (simp; done) | (simp; omega) | omega | (simp [World.setCell]; omega)) _ | refine Below.alloc ?_ (by first | (simp; done) | (simp; omega) | omega | (simp [World.setCell]; omega)) _ | refine below_drewN' ?_ _ | refine Below.drew ?_ | exact Hid.out (by assumption) | exact Below.refl _ _))))).mono ?_; rintro e w1 ⟨rfl, hb1⟩
  have s1 := hb1.size; try simp at s1
  try (have l1_0_0_0 : w.heap.size < w1.heap.size := by omega)
  try (have l1_0_0_1 : w.heap.size < w1.heap.size + 1 := by omega)
  try (have l1_0_0_2 : w.heap.size < w1.heap.size + 1 + 1 := by omega)
  try (have e1_0_0_0 := hb1.cell (p := ⟨w.heap.size, 0, none⟩) (by first | (simp; done) | (simp; omega) | omega | (simp [World.setCell]; omega)); simp [go_sem, *] at e1_0_0_0)
  try (have f1_0_0_0 := hb1.frozen (p := ⟨w.heap.size, 0, none⟩) (by first | (simp; done) | (simp; omega) | omega | (simp [World.setCell]; omega)); simp [go_sem, *] at f1_0_0_0)
  try (have e1_0_0_1 := hb1.cell (p := ⟨w.heap.size, 1, none⟩) (by first | (simp; done) | (simp; omega) | omega | (simp [World.setCell]; omega)); simp [go_sem, *] at e1_0_0_1)
  try (have f1_0_0_1 := hb1.frozen (p := ⟨w.heap.size, 1, none⟩) (by first | (simp; done) | (simp; omega) | omega | (simp [World.setCell]; omega)); simp [go_sem, *] at f1_0_0_1)
  have HB1 := bel_step (w := w) (by (repeat' (first | refine Below.setCell ?_ (by first | (simp; done) | (simp; omega) | omega | (simp [World.setCell]; omega)) _ | refine Below.alloc ?_ (by first | (simp; done) | (simp; omega) | omega | (simp [World.setCell]; omega)) _ | refine below_drewN' ?_ _ | refine Below.drew ?_ | exact Hid.out (by assumption) | exact Below.refl _ _))) hb1
  clear hb1
  go_wp2_with fail
  refine (raw_1 p n L T V hD _ (h.below (by (repeat' (first | refine Below.setCell ?_ (by first | (simp; done) | (simp; omega) | omega | (simp [World.setCell]; omega)) _ | refine Below.alloc ?_ (by first | (simp; done) | (simp; omega) | omega | (simp [World.setCell]; omega)) _ | refine below_drewN' ?_ _ | refine Below.drew ?_ | exact Hid.out (by assumption) | exact Below.refl _ _))))).mono ?_; rintro e w2 ⟨rfl, hb2⟩
  have s2 := hb2.size; try simp at s2
  try (have l2_0_0_0 : w.heap.size < w2.heap.size := by omega)
  try (have l2_0_0_1 : w.heap.size < w2.heap.size + 1 := by omega)
  try (have l2_0_0_2 : w.heap.size < w2.heap.size + 1 + 1 := by omega)
  try (have e2_0_0_0 := hb2.cell (p := ⟨w.heap.size, 0, none⟩) (by first | (simp; done) | (simp; omega) | omega | (simp [World.setCell]; omega)); simp [go_sem, *] at e2_0_0_0)
  try (have f2_0_0_0 := hb2.frozen (p := ⟨w.heap.size, 0, none⟩) (by first | (simp; done) | (simp; omega) | omega | (simp [World.setCell]; omega)); simp [go_sem, *] at f2_0_0_0)
  try (have e2_0_0_1 := hb2.cell (p := ⟨w.heap.size, 1, none⟩) (by first | (simp; done) | (simp; omega) | omega | (simp [World.setCell]; omega)); simp [go_sem, *] at e2_0_0_1)
  try (have f2_0_0_1 := hb2.frozen (p := ⟨w.heap.size, 1, none⟩) (by first | (simp; done) | (simp; omega) | omega | (simp [World.setCell]; omega)); simp [go_sem, *] at f2_0_0_1)
  have HB2 := bel_step (w := w) (by (repeat' (first | refine Below.setCell ?_ (by first | (simp; done) | (simp; omega) | omega | (simp [World.setCell]; omega)) _ | refine Below.alloc ?_ (by first | (simp; done) | (simp; omega) | omega | (simp [World.setCell]; omega)) _ | refine below_drewN' ?_ _ | refine Below.drew ?_ | exact Hid.out (by assumption) | exact Below.refl _ _))) hb2
  clear hb2
  go_wp2_with fail
  go_ret
  exact ⟨rfl, by (repeat' (first | refine Below.setCell ?_ (by first | (simp; done) | (simp; omega) | omega | (simp [World.setCell]; omega)) _ | refine Below.alloc ?_ (by first | (simp; done) | (simp; omega) | omega | (simp [World.setCell]; omega)) _ | refine below_drewN' ?_ _ | refine Below.drew ?_ | exact Hid.out (by assumption) | exact Below.refl _ _))⟩
end Go.Proofs.YtjelneeeijjpiaaGreatDoor
end
section
namespace Go.Proofs.YtjelneeeijjpiaaGreatDoor
open Go.RowKit
theorem SB.new {B : Nat} (w : World) (hB : B ≤ w.heap.size) : Tx.SB B w.heap.size [] (w.alloc (.cells #[.pointer none, .slice none 0 0] 146)) := .inl ⟨hB, .slice none 0 0, World.alloc_heap_new w _, World.ownsRowF_nil _ _ _ _, by simp [Value.ownBlock]⟩
def LeafP (w : World) (p : Nat) (C : ByteArray) : Prop := ∀ W : World, Below w.heap.size w W → Calls Tryz.prog 194 #[.agg #[.pointer (some ⟨p, 0, none⟩), .int .i64 1]] W fun e w' => e = .returned (.string C) ∧ Below W.heap.size W w'
set_option maxRecDepth 100000 in
set_option maxHeartbeats 2000000 in
theorem value_1 (p n L : Nat) (T V : ByteArray) (hD : Doc T V n L) (c : Int) (k : Nat) (hV : 0 < V.size) (hc : ((V[0]'hV).toNat : Int) = c) (hk : Kd c k) (hk4 : k < 4) (C : ByteArray) (hC : C.size ≤ 100000) (w : World) (h : Ix w p T n) (hLf : LeafP w p C) : Calls Tryz.prog 143 #[.agg #[.pointer (some ⟨p, 0, none⟩), .int .i64 1]] w fun e w' => e = .returned (.string C) ∧ Below w.heap.size w w' := by
  go_enter Tryz.func143, Tryz.ntmps143
  go_wp2_with (first | (refine wp_scope_lab 4 ?_; intro K hK) | (refine Lab.step _ rfl ?_; intro K hK) | (refine hK _ _ _ ?_; refine Lab.step _ rfl ?_; intro K hK) | simp only [jumps_goto, jumps_ret, jumps_normal] | simp only [Exit.then, Exit.inBlock, jumps_goto, jumps_ret, jumps_normal] | go_step3)
  have hS0 := SB.new (B := w.heap.size) (w.alloc (.cells #[.pointer (some ⟨p, 0, none⟩), .int .i64 1] 139)) (by simp)
  simp only [World.size_alloc] at hS0
  refine (first_1 p n L T V hD c k hV hc hk hk4 _ (h.below (by (repeat' (first | refine Below.setCell ?_ (by first | (simp; done) | (simp; omega) | omega | (simp [World.setCell]; omega)) _ | refine Below.alloc ?_ (by first | (simp; done) | (simp; omega) | omega | (simp [World.setCell]; omega)) _ | refine below_drewN' ?_ _ | refine Below.drew ?_ | exact Hid.out (by assumption) | exact Below.refl _ _))))).mono ?_; rintro e w1 ⟨rfl, hb1⟩
  have s1 := hb1.size; try simp at s1
  try (have l1_0_0_0 : w.heap.size < w1.heap.size := by omega)
  try (have l1_0_0_1 : w.heap.size < w1.heap.size + 1 := by omega)
  try (have l1_0_0_2 : w.heap.size < w1.heap.size + 1 + 1 := by omega)
  try (have l1_0_1_0 : w.heap.size + 1 < w1.heap.size := by omega)
  try (have l1_0_1_1 : w.heap.size + 1 < w1.heap.size + 1 := by omega)
  try (have l1_0_1_2 : w.heap.size + 1 < w1.heap.size + 1 + 1 := by omega)
  try (have e1_0_0_0 := hb1.cell (p := ⟨w.heap.size, 0, none⟩) (by first | (simp; done) | (simp; omega) | omega | (simp [World.setCell]; omega)); simp [go_sem, *] at e1_0_0_0)
  try (have f1_0_0_0 := hb1.frozen (p := ⟨w.heap.size, 0, none⟩) (by first | (simp; done) | (simp; omega) | omega | (simp [World.setCell]; omega)); simp [go_sem, *] at f1_0_0_0)
  try (have e1_0_0_1 := hb1.cell (p := ⟨w.heap.size, 1, none⟩) (by first | (simp; done) | (simp; omega) | omega | (simp [World.setCell]; omega)); simp [go_sem, *] at e1_0_0_1)
  try (have f1_0_0_1 := hb1.frozen (p := ⟨w.heap.size, 1, none⟩) (by first | (simp; done) | (simp; omega) | omega | (simp [World.setCell]; omega)); simp [go_sem, *] at f1_0_0_1)
  try (have e1_0_1_0 := hb1.cell (p := ⟨w.heap.size + 1, 0, none⟩) (by first | (simp; done) | (simp; omega) | omega | (simp [World.setCell]; omega)); simp [go_sem, *] at e1_0_1_0)
  try (have f1_0_1_0 := hb1.frozen (p := ⟨w.heap.size + 1, 0, none⟩) (by first | (simp; done) | (simp; omega) | omega | (simp [World.setCell]; omega)); simp [go_sem, *] at f1_0_1_0)
  try (have e1_0_1_1 := hb1.cell (p := ⟨w.heap.size + 1, 1, none⟩) (by first | (simp; done) | (simp; omega) | omega | (simp [World.setCell]; omega)); simp [go_sem, *] at e1_0_1_1)
  try (have f1_0_1_1 := hb1.frozen (p := ⟨w.heap.size + 1, 1, none⟩) (by first | (simp; done) | (simp; omega) | omega | (simp [World.setCell]; omega)); simp [go_sem, *] at f1_0_1_1)
  have HB1 := bel_step (w := w) (by (repeat' (first | refine Below.setCell ?_ (by first | (simp; done) | (simp; omega) | omega | (simp [World.setCell]; omega)) _ | refine Below.alloc ?_ (by first | (simp; done) | (simp; omega) | omega | (simp [World.setCell]; omega)) _ | refine below_drewN' ?_ _ | refine Below.drew ?_ | exact Hid.out (by assumption) | exact Below.refl _ _))) hb1
  have hS1 := Lib.hid ((hS0.below hb1).below (((Below.refl _ _).alloc (Nat.le_refl _) (.cells #[.pointer none, .int .i64 0] 139))))
  clear hS0
  clear hb1
  go_wp2_with (first | (refine wp_scope_lab 4 ?_; intro K hK) | (refine Lab.step _ rfl ?_; intro K hK) | (refine hK _ _ _ ?_; refine Lab.step _ rfl ?_; intro K hK) | simp only [jumps_goto, jumps_ret, jumps_normal] | simp only [Exit.then, Exit.inBlock, jumps_goto, jumps_ret, jumps_normal] | go_step3)
  refine (hLf _ (by (repeat' (first | refine Below.setCell ?_ (by first | (simp; done) | (simp; omega) | omega | (simp [World.setCell]; omega)) _ | refine Below.alloc ?_ (by first | (simp; done) | (simp; omega) | omega | (simp [World.setCell]; omega)) _ | refine below_drewN' ?_ _ | refine Below.drew ?_ | exact Hid.out (by assumption) | exact Below.refl _ _)))).mono ?_; rintro e w2 ⟨rfl, hb2⟩
  have hS2 := hS1.out.below hb2
  have s2 := hb2.size; try simp at s2
  have HB2 := bel_step (w := w) (by (repeat' (first | refine Below.setCell ?_ (by first | (simp; done) | (simp; omega) | omega | (simp [World.setCell]; omega)) _ | refine Below.alloc ?_ (by first | (simp; done) | (simp; omega) | omega | (simp [World.setCell]; omega)) _ | refine below_drewN' ?_ _ | refine Below.drew ?_ | exact Hid.out (by assumption) | exact Below.refl _ _))) hb2
  clear hb2 hS1
  go_wp2_with (first | (refine wp_scope_lab 4 ?_; intro K hK) | (refine Lab.step _ rfl ?_; intro K hK) | (refine hK _ _ _ ?_; refine Lab.step _ rfl ?_; intro K hK) | simp only [jumps_goto, jumps_ret, jumps_normal] | simp only [Exit.then, Exit.inBlock, jumps_goto, jumps_ret, jumps_normal] | go_step3)
  refine (Tx.sb_writeString w.heap.size (w.heap.size + 1) [] C _ hS2 (by simp) (by omega) (by omega)).mono ?_; rintro e w3 ⟨rfl, hS3, hk3⟩
  have HB3 : Hid (Below w.heap.size w w3) := Lib.hid (HB2.out.trans hk3.1)
  have s3 := HB3.out.size
  clear hk3 HB2 hS2
  go_wp2_with (first | (refine wp_scope_lab 4 ?_; intro K hK) | (refine Lab.step _ rfl ?_; intro K hK) | (refine hK _ _ _ ?_; refine Lab.step _ rfl ?_; intro K hK) | simp only [jumps_goto, jumps_ret, jumps_normal] | simp only [Exit.then, Exit.inBlock, jumps_goto, jumps_ret, jumps_normal] | go_step3)
  refine (Tx.sb_string w.heap.size (w.heap.size + 1) _ _ hS3 (by omega)).mono ?_; rintro e w4 ⟨rfl, hS4, hk4⟩
  have HB4 : Hid (Below w.heap.size w w4) := Lib.hid (HB3.out.trans hk4.1)
  have he : (⟨([] ++ C.data.toList).toArray⟩ : ByteArray) = C := by simp
  rw [he]
  go_wp2_with (first | (refine wp_scope_lab 4 ?_; intro K hK) | (refine Lab.step _ rfl ?_; intro K hK) | (refine hK _ _ _ ?_; refine Lab.step _ rfl ?_; intro K hK) | simp only [jumps_goto, jumps_ret, jumps_normal] | simp only [Exit.then, Exit.inBlock, jumps_goto, jumps_ret, jumps_normal] | go_step3)
  go_ret
  exact ⟨rfl, HB4.out⟩
end Go.Proofs.YtjelneeeijjpiaaGreatDoor
end
section
namespace Go.Proofs.YtjelneeeijjpiaaGreatDoor
open Go.RowKit
set_option maxRecDepth 100000 in
set_option maxHeartbeats 2000000 in
theorem sindex_0 (s p n : Nat) (w : World) (h : Se w s p n) : Calls Tryz.prog 64 #[.pointer (some ⟨s, 0, none⟩), .int .i64 0] w fun e w' => e = .returned (.tuple #[.pointer (some ⟨p, 0, none⟩), .int .i64 0]) ∧ Below w.heap.size w w' := by
  obtain ⟨file, deep, lr, lc, xr, xc, at_, h1, h2, h3⟩ := h
  have l1 := h1.lt; have l2 := h2.lt; have l3 := h3.lt
  have a0 := h1.c0; have a1 := h1.c1; have a2 := h1.c2; have a3 := h1.c3
  have b0 := h2.c0; have b1 := h2.c1; have b2 := h2.c2; have b3 := h2.c3
  have c0 := h3.c0
  have l11 : s < w.heap.size + 1 := by omega
  have l21 : lr < w.heap.size + 1 := by omega
  have l31 : xr < w.heap.size + 1 := by omega
  have l12 : s < w.heap.size + 1 + 1 := by omega
  have l22 : lr < w.heap.size + 1 + 1 := by omega
  have l32 : xr < w.heap.size + 1 + 1 := by omega
  have l13 : s < w.heap.size + 1 + 1 + 1 := by omega
  have l23 : lr < w.heap.size + 1 + 1 + 1 := by omega
  have l33 : xr < w.heap.size + 1 + 1 + 1 := by omega
  go_enter Tryz.func64, Tryz.ntmps64
  go_wp2_with fail
  go_wp2_with fail
  go_ret2
  exact ⟨rfl, by (repeat' (first | refine Below.setCell ?_ (by first | (simp; done) | (simp; omega) | omega | (simp [World.setCell]; omega)) _ | refine Below.alloc ?_ (by first | (simp; done) | (simp; omega) | omega | (simp [World.setCell]; omega)) _ | refine below_drewN' ?_ _ | refine Below.drew ?_ | exact Hid.out (by assumption) | exact Below.refl _ _))⟩
set_option maxRecDepth 100000 in
set_option maxHeartbeats 2000000 in
theorem srecord_0 (s p n : Nat) (w : World) (h : Se w s p n) : Calls Tryz.prog 56 #[.pointer (some ⟨s, 0, none⟩), .int .i64 0] w fun e w' => ∃ at_, e = .returned (.tuple #[.agg #[.int .i64 0, .int .i64 (n : Nat), .int .i64 1, .int .i64 at_], .int .i64 0]) ∧ Below w.heap.size w w' := by
  obtain ⟨file, deep, lr, lc, xr, xc, at_, h1, h2, h3⟩ := h
  have l1 := h1.lt; have l2 := h2.lt; have l3 := h3.lt
  have a0 := h1.c0; have a1 := h1.c1; have a2 := h1.c2; have a3 := h1.c3
  have b0 := h2.c0; have b1 := h2.c1; have b2 := h2.c2; have b3 := h2.c3
  have c0 := h3.c0
  have l11 : s < w.heap.size + 1 := by omega
  have l21 : lr < w.heap.size + 1 := by omega
  have l31 : xr < w.heap.size + 1 := by omega
  have l12 : s < w.heap.size + 1 + 1 := by omega
  have l22 : lr < w.heap.size + 1 + 1 := by omega
  have l32 : xr < w.heap.size + 1 + 1 := by omega
  have l13 : s < w.heap.size + 1 + 1 + 1 := by omega
  have l23 : lr < w.heap.size + 1 + 1 + 1 := by omega
  have l33 : xr < w.heap.size + 1 + 1 + 1 := by omega
  go_enter Tryz.func56, Tryz.ntmps56
  go_wp2_with fail
  try simp only [Exit.inBlock, Exit.then]
  refine bodyPost_ret (v := .tuple #[.agg #[.int .i64 0, .int .i64 (n : Nat), .int .i64 1, .int .i64 at_], .int .i64 0]) (by simp [results, Tryz.results56, go_sem, *]) rfl ⟨at_, rfl, by (repeat' (first | refine Below.setCell ?_ (by first | (simp; done) | (simp; omega) | omega | (simp [World.setCell]; omega)) _ | refine Below.alloc ?_ (by first | (simp; done) | (simp; omega) | omega | (simp [World.setCell]; omega)) _ | refine below_drewN' ?_ _ | refine Below.drew ?_ | exact Hid.out (by assumption) | exact Below.refl _ _))⟩
end Go.Proofs.YtjelneeeijjpiaaGreatDoor
end
