/- TopText: walks and plain laws, part 18: lemmas on what the functions that the law comes to compute. -/
import Derived.Test.YtjelneeeijjpiaaGreatDoorG14
import Derived.Test.YtjelneeeijjpiaaGreatDoorG09
import Derived.Test.YtjelneeeijjpiaaGreatDoorG04
set_option linter.unusedVariables false
set_option linter.unusedSimpArgs false
section
namespace Go.Proofs.YtjelneeeijjpiaaGreatDoor
open Go.RowKit
set_option maxRecDepth 100000 in
set_option maxHeartbeats 2000000 in
theorem ccount_r (p n L : Nat) (T V : ByteArray) (hD : Doc T V n L) (w : World) (h : Ix w p T n) : Calls Tryz.prog 278 #[.agg #[.pointer (some ⟨p, 0, none⟩), .int .i64 (-1)]] w fun e w' => e = .returned (.int .i64 1) ∧ Below w.heap.size w w' := by
  have hn := hD.n3
  have hn1 := hD.n1
  have hL := hD.hL
  have hs := hD.hn
  have hv := hD.vs
  obtain ⟨sq, b, ns, a1, x0, x1, x2, x3, g1, g2, g3⟩ := id h
  have hNe := xnest_q p ns w a1 x2
  go_enter Tryz.func278, Tryz.ntmps278
  go_wp2_with fail
  refine (inner_r p n L T V hD _ (h.below (by (repeat' (first | refine Below.setCell ?_ (by first | (simp; done) | (simp; omega) | omega | (simp [World.setCell]; omega)) _ | refine Below.alloc ?_ (by first | (simp; done) | (simp; omega) | omega | (simp [World.setCell]; omega)) _ | refine below_drewN' ?_ _ | refine Below.drew ?_ | exact Hid.out (by assumption) | exact Below.refl _ _))))).mono ?_; rintro e w1 ⟨rfl, hb1⟩
  have s1 := hb1.size; try simp at s1
  try (have l1_0_0_0 : w.heap.size < w1.heap.size := by omega)
  try (have l1_0_0_1 : w.heap.size < w1.heap.size + 1 := by omega)
  try (have l1_0_0_2 : w.heap.size < w1.heap.size + 1 + 1 := by omega)
  try (have e1_0_0_0 := hb1.cell (p := ⟨w.heap.size, 0, none⟩) (by first | (simp; done) | (simp; omega) | omega | (simp [World.setCell]; omega)); simp [go_sem, *] at e1_0_0_0)
  try (have f1_0_0_0 := hb1.frozen (p := ⟨w.heap.size, 0, none⟩) (by first | (simp; done) | (simp; omega) | omega | (simp [World.setCell]; omega)); simp [go_sem, *] at f1_0_0_0)
  try (have e1_0_0_1 := hb1.cell (p := ⟨w.heap.size, 1, none⟩) (by first | (simp; done) | (simp; omega) | omega | (simp [World.setCell]; omega)); simp [go_sem, *] at e1_0_0_1)
  try (have f1_0_0_1 := hb1.frozen (p := ⟨w.heap.size, 1, none⟩) (by first | (simp; done) | (simp; omega) | omega | (simp [World.setCell]; omega)); simp [go_sem, *] at f1_0_0_1)
  have HB1 := bel_step (w := w) (by (repeat' (first | refine Below.setCell ?_ (by first | (simp; done) | (simp; omega) | omega | (simp [World.setCell]; omega)) _ | refine Below.alloc ?_ (by first | (simp; done) | (simp; omega) | omega | (simp [World.setCell]; omega)) _ | refine below_drewN' ?_ _ | refine Below.drew ?_ | exact Hid.out (by assumption) | exact Below.refl _ _))) hb1
  clear hb1
  go_wp2_with (first | (go_at_call 239; refine (hNe _ (by (repeat' (first | refine Below.setCell ?_ (by first | (simp; done) | (simp; omega) | omega | (simp [World.setCell]; omega)) _ | refine Below.alloc ?_ (by first | (simp; done) | (simp; omega) | omega | (simp [World.setCell]; omega)) _ | refine below_drewN' ?_ _ | refine Below.drew ?_ | exact Hid.out (by assumption) | exact Below.refl _ _)))).mono ?_; rintro e w9 ⟨rfl, m9, rfl⟩))
  refine (ncount_any ns b _ (g2.below (by (repeat' (first | refine Below.setCell ?_ (by first | (simp; done) | (simp; omega) | omega | (simp [World.setCell]; omega)) _ | refine Below.alloc ?_ (by first | (simp; done) | (simp; omega) | omega | (simp [World.setCell]; omega)) _ | refine below_drewN' ?_ _ | refine Below.drew ?_ | exact Hid.out (by assumption) | exact Below.refl _ _))))).mono ?_; rintro e w2 ⟨rfl, hb2⟩
  have s2 := hb2.size; try simp at s2
  try (have l2_0_0_0 : w.heap.size < w2.heap.size := by omega)
  try (have l2_0_0_1 : w.heap.size < w2.heap.size + 1 := by omega)
  try (have l2_0_0_2 : w.heap.size < w2.heap.size + 1 + 1 := by omega)
  try (have e2_0_0_0 := hb2.cell (p := ⟨w.heap.size, 0, none⟩) (by first | (simp; done) | (simp; omega) | omega | (simp [World.setCell]; omega)); simp [go_sem, *] at e2_0_0_0)
  try (have f2_0_0_0 := hb2.frozen (p := ⟨w.heap.size, 0, none⟩) (by first | (simp; done) | (simp; omega) | omega | (simp [World.setCell]; omega)); simp [go_sem, *] at f2_0_0_0)
  try (have e2_0_0_1 := hb2.cell (p := ⟨w.heap.size, 1, none⟩) (by first | (simp; done) | (simp; omega) | omega | (simp [World.setCell]; omega)); simp [go_sem, *] at e2_0_0_1)
  try (have f2_0_0_1 := hb2.frozen (p := ⟨w.heap.size, 1, none⟩) (by first | (simp; done) | (simp; omega) | omega | (simp [World.setCell]; omega)); simp [go_sem, *] at f2_0_0_1)
  have HB2 := bel_step (w := w) (by (repeat' (first | refine Below.setCell ?_ (by first | (simp; done) | (simp; omega) | omega | (simp [World.setCell]; omega)) _ | refine Below.alloc ?_ (by first | (simp; done) | (simp; omega) | omega | (simp [World.setCell]; omega)) _ | refine below_drewN' ?_ _ | refine Below.drew ?_ | exact Hid.out (by assumption) | exact Below.refl _ _))) hb2
  clear hb2
  go_wp2_with fail
  refine (kind_r p n L T V hD _ (h.below (by (repeat' (first | refine Below.setCell ?_ (by first | (simp; done) | (simp; omega) | omega | (simp [World.setCell]; omega)) _ | refine Below.alloc ?_ (by first | (simp; done) | (simp; omega) | omega | (simp [World.setCell]; omega)) _ | refine below_drewN' ?_ _ | refine Below.drew ?_ | exact Hid.out (by assumption) | exact Below.refl _ _))))).mono ?_; rintro e w3 ⟨rfl, hb3⟩
  have s3 := hb3.size; try simp at s3
  try (have l3_0_0_0 : w.heap.size < w3.heap.size := by omega)
  try (have l3_0_0_1 : w.heap.size < w3.heap.size + 1 := by omega)
  try (have l3_0_0_2 : w.heap.size < w3.heap.size + 1 + 1 := by omega)
  try (have e3_0_0_0 := hb3.cell (p := ⟨w.heap.size, 0, none⟩) (by first | (simp; done) | (simp; omega) | omega | (simp [World.setCell]; omega)); simp [go_sem, *] at e3_0_0_0)
  try (have f3_0_0_0 := hb3.frozen (p := ⟨w.heap.size, 0, none⟩) (by first | (simp; done) | (simp; omega) | omega | (simp [World.setCell]; omega)); simp [go_sem, *] at f3_0_0_0)
  try (have e3_0_0_1 := hb3.cell (p := ⟨w.heap.size, 1, none⟩) (by first | (simp; done) | (simp; omega) | omega | (simp [World.setCell]; omega)); simp [go_sem, *] at e3_0_0_1)
  try (have f3_0_0_1 := hb3.frozen (p := ⟨w.heap.size, 1, none⟩) (by first | (simp; done) | (simp; omega) | omega | (simp [World.setCell]; omega)); simp [go_sem, *] at f3_0_0_1)
  have HB3 := bel_step (w := w) (by (repeat' (first | refine Below.setCell ?_ (by first | (simp; done) | (simp; omega) | omega | (simp [World.setCell]; omega)) _ | refine Below.alloc ?_ (by first | (simp; done) | (simp; omega) | omega | (simp [World.setCell]; omega)) _ | refine below_drewN' ?_ _ | refine Below.drew ?_ | exact Hid.out (by assumption) | exact Below.refl _ _))) hb3
  clear hb3
  go_wp2_with fail
  go_ret
  exact ⟨rfl, by (repeat' (first | refine Below.setCell ?_ (by first | (simp; done) | (simp; omega) | omega | (simp [World.setCell]; omega)) _ | refine Below.alloc ?_ (by first | (simp; done) | (simp; omega) | omega | (simp [World.setCell]; omega)) _ | refine below_drewN' ?_ _ | refine Below.drew ?_ | exact Hid.out (by assumption) | exact Below.refl _ _))⟩
set_option maxRecDepth 100000 in
set_option maxHeartbeats 2000000 in
theorem cchild_r (p n L : Nat) (T V : ByteArray) (hD : Doc T V n L) (w : World) (h : Ix w p T n) : Calls Tryz.prog 210 #[.agg #[.pointer (some ⟨p, 0, none⟩), .int .i64 (-1)], .int .i64 0] w fun e w' => e = .returned (.tuple #[.agg #[.pointer (some ⟨p, 0, none⟩), .int .i64 1], .bool true]) ∧ Below w.heap.size w w' := by
  have hn := hD.n3
  have hn1 := hD.n1
  have hL := hD.hL
  have hs := hD.hn
  have hv := hD.vs
  obtain ⟨sq, b, ns, a1, x0, x1, x2, x3, g1, g2, g3⟩ := id h
  have hNe := xnest_q p ns w a1 x2
  go_enter Tryz.func210, Tryz.ntmps210
  go_wp2_with fail
  refine (inner_r p n L T V hD _ (h.below (by (repeat' (first | refine Below.setCell ?_ (by first | (simp; done) | (simp; omega) | omega | (simp [World.setCell]; omega)) _ | refine Below.alloc ?_ (by first | (simp; done) | (simp; omega) | omega | (simp [World.setCell]; omega)) _ | refine below_drewN' ?_ _ | refine Below.drew ?_ | exact Hid.out (by assumption) | exact Below.refl _ _))))).mono ?_; rintro e w1 ⟨rfl, hb1⟩
  have s1 := hb1.size; try simp at s1
  try (have l1_0_0_0 : w.heap.size < w1.heap.size := by omega)
  try (have l1_0_0_1 : w.heap.size < w1.heap.size + 1 := by omega)
  try (have l1_0_0_2 : w.heap.size < w1.heap.size + 1 + 1 := by omega)
  try (have l1_0_1_0 : w.heap.size + 1 < w1.heap.size := by omega)
  try (have l1_0_1_1 : w.heap.size + 1 < w1.heap.size + 1 := by omega)
  try (have l1_0_1_2 : w.heap.size + 1 < w1.heap.size + 1 + 1 := by omega)
  try (have l1_0_2_0 : w.heap.size + 2 < w1.heap.size := by omega)
  try (have l1_0_2_1 : w.heap.size + 2 < w1.heap.size + 1 := by omega)
  try (have l1_0_2_2 : w.heap.size + 2 < w1.heap.size + 1 + 1 := by omega)
  try (have e1_0_0_0 := hb1.cell (p := ⟨w.heap.size, 0, none⟩) (by first | (simp; done) | (simp; omega) | omega | (simp [World.setCell]; omega)); simp [go_sem, *] at e1_0_0_0)
  try (have f1_0_0_0 := hb1.frozen (p := ⟨w.heap.size, 0, none⟩) (by first | (simp; done) | (simp; omega) | omega | (simp [World.setCell]; omega)); simp [go_sem, *] at f1_0_0_0)
  try (have e1_0_0_1 := hb1.cell (p := ⟨w.heap.size, 1, none⟩) (by first | (simp; done) | (simp; omega) | omega | (simp [World.setCell]; omega)); simp [go_sem, *] at e1_0_0_1)
  try (have f1_0_0_1 := hb1.frozen (p := ⟨w.heap.size, 1, none⟩) (by first | (simp; done) | (simp; omega) | omega | (simp [World.setCell]; omega)); simp [go_sem, *] at f1_0_0_1)
  try (have e1_0_1_0 := hb1.cell (p := ⟨w.heap.size + 1, 0, none⟩) (by first | (simp; done) | (simp; omega) | omega | (simp [World.setCell]; omega)); simp [go_sem, *] at e1_0_1_0)
  try (have f1_0_1_0 := hb1.frozen (p := ⟨w.heap.size + 1, 0, none⟩) (by first | (simp; done) | (simp; omega) | omega | (simp [World.setCell]; omega)); simp [go_sem, *] at f1_0_1_0)
  try (have e1_0_1_1 := hb1.cell (p := ⟨w.heap.size + 1, 1, none⟩) (by first | (simp; done) | (simp; omega) | omega | (simp [World.setCell]; omega)); simp [go_sem, *] at e1_0_1_1)
  try (have f1_0_1_1 := hb1.frozen (p := ⟨w.heap.size + 1, 1, none⟩) (by first | (simp; done) | (simp; omega) | omega | (simp [World.setCell]; omega)); simp [go_sem, *] at f1_0_1_1)
  try (have e1_0_2_0 := hb1.cell (p := ⟨w.heap.size + 2, 0, none⟩) (by first | (simp; done) | (simp; omega) | omega | (simp [World.setCell]; omega)); simp [go_sem, *] at e1_0_2_0)
  try (have f1_0_2_0 := hb1.frozen (p := ⟨w.heap.size + 2, 0, none⟩) (by first | (simp; done) | (simp; omega) | omega | (simp [World.setCell]; omega)); simp [go_sem, *] at f1_0_2_0)
  try (have e1_0_2_1 := hb1.cell (p := ⟨w.heap.size + 2, 1, none⟩) (by first | (simp; done) | (simp; omega) | omega | (simp [World.setCell]; omega)); simp [go_sem, *] at e1_0_2_1)
  try (have f1_0_2_1 := hb1.frozen (p := ⟨w.heap.size + 2, 1, none⟩) (by first | (simp; done) | (simp; omega) | omega | (simp [World.setCell]; omega)); simp [go_sem, *] at f1_0_2_1)
  have HB1 := bel_step (w := w) (by (repeat' (first | refine Below.setCell ?_ (by first | (simp; done) | (simp; omega) | omega | (simp [World.setCell]; omega)) _ | refine Below.alloc ?_ (by first | (simp; done) | (simp; omega) | omega | (simp [World.setCell]; omega)) _ | refine below_drewN' ?_ _ | refine Below.drew ?_ | exact Hid.out (by assumption) | exact Below.refl _ _))) hb1
  clear hb1
  go_wp2_with fail
  refine (ccount_r p n L T V hD _ (h.below (by (repeat' (first | refine Below.setCell ?_ (by first | (simp; done) | (simp; omega) | omega | (simp [World.setCell]; omega)) _ | refine Below.alloc ?_ (by first | (simp; done) | (simp; omega) | omega | (simp [World.setCell]; omega)) _ | refine below_drewN' ?_ _ | refine Below.drew ?_ | exact Hid.out (by assumption) | exact Below.refl _ _))))).mono ?_; rintro e w2 ⟨rfl, hb2⟩
  have s2 := hb2.size; try simp at s2
  try (have l2_0_0_0 : w.heap.size < w2.heap.size := by omega)
  try (have l2_0_0_1 : w.heap.size < w2.heap.size + 1 := by omega)
  try (have l2_0_0_2 : w.heap.size < w2.heap.size + 1 + 1 := by omega)
  try (have l2_0_1_0 : w.heap.size + 1 < w2.heap.size := by omega)
  try (have l2_0_1_1 : w.heap.size + 1 < w2.heap.size + 1 := by omega)
  try (have l2_0_1_2 : w.heap.size + 1 < w2.heap.size + 1 + 1 := by omega)
  try (have l2_0_2_0 : w.heap.size + 2 < w2.heap.size := by omega)
  try (have l2_0_2_1 : w.heap.size + 2 < w2.heap.size + 1 := by omega)
  try (have l2_0_2_2 : w.heap.size + 2 < w2.heap.size + 1 + 1 := by omega)
  try (have e2_0_0_0 := hb2.cell (p := ⟨w.heap.size, 0, none⟩) (by first | (simp; done) | (simp; omega) | omega | (simp [World.setCell]; omega)); simp [go_sem, *] at e2_0_0_0)
  try (have f2_0_0_0 := hb2.frozen (p := ⟨w.heap.size, 0, none⟩) (by first | (simp; done) | (simp; omega) | omega | (simp [World.setCell]; omega)); simp [go_sem, *] at f2_0_0_0)
  try (have e2_0_0_1 := hb2.cell (p := ⟨w.heap.size, 1, none⟩) (by first | (simp; done) | (simp; omega) | omega | (simp [World.setCell]; omega)); simp [go_sem, *] at e2_0_0_1)
  try (have f2_0_0_1 := hb2.frozen (p := ⟨w.heap.size, 1, none⟩) (by first | (simp; done) | (simp; omega) | omega | (simp [World.setCell]; omega)); simp [go_sem, *] at f2_0_0_1)
  try (have e2_0_1_0 := hb2.cell (p := ⟨w.heap.size + 1, 0, none⟩) (by first | (simp; done) | (simp; omega) | omega | (simp [World.setCell]; omega)); simp [go_sem, *] at e2_0_1_0)
  try (have f2_0_1_0 := hb2.frozen (p := ⟨w.heap.size + 1, 0, none⟩) (by first | (simp; done) | (simp; omega) | omega | (simp [World.setCell]; omega)); simp [go_sem, *] at f2_0_1_0)
  try (have e2_0_1_1 := hb2.cell (p := ⟨w.heap.size + 1, 1, none⟩) (by first | (simp; done) | (simp; omega) | omega | (simp [World.setCell]; omega)); simp [go_sem, *] at e2_0_1_1)
  try (have f2_0_1_1 := hb2.frozen (p := ⟨w.heap.size + 1, 1, none⟩) (by first | (simp; done) | (simp; omega) | omega | (simp [World.setCell]; omega)); simp [go_sem, *] at f2_0_1_1)
  try (have e2_0_2_0 := hb2.cell (p := ⟨w.heap.size + 2, 0, none⟩) (by first | (simp; done) | (simp; omega) | omega | (simp [World.setCell]; omega)); simp [go_sem, *] at e2_0_2_0)
  try (have f2_0_2_0 := hb2.frozen (p := ⟨w.heap.size + 2, 0, none⟩) (by first | (simp; done) | (simp; omega) | omega | (simp [World.setCell]; omega)); simp [go_sem, *] at f2_0_2_0)
  try (have e2_0_2_1 := hb2.cell (p := ⟨w.heap.size + 2, 1, none⟩) (by first | (simp; done) | (simp; omega) | omega | (simp [World.setCell]; omega)); simp [go_sem, *] at e2_0_2_1)
  try (have f2_0_2_1 := hb2.frozen (p := ⟨w.heap.size + 2, 1, none⟩) (by first | (simp; done) | (simp; omega) | omega | (simp [World.setCell]; omega)); simp [go_sem, *] at f2_0_2_1)
  have HB2 := bel_step (w := w) (by (repeat' (first | refine Below.setCell ?_ (by first | (simp; done) | (simp; omega) | omega | (simp [World.setCell]; omega)) _ | refine Below.alloc ?_ (by first | (simp; done) | (simp; omega) | omega | (simp [World.setCell]; omega)) _ | refine below_drewN' ?_ _ | refine Below.drew ?_ | exact Hid.out (by assumption) | exact Below.refl _ _))) hb2
  clear hb2
  go_wp2_with fail
  refine (kind_r p n L T V hD _ (h.below (by (repeat' (first | refine Below.setCell ?_ (by first | (simp; done) | (simp; omega) | omega | (simp [World.setCell]; omega)) _ | refine Below.alloc ?_ (by first | (simp; done) | (simp; omega) | omega | (simp [World.setCell]; omega)) _ | refine below_drewN' ?_ _ | refine Below.drew ?_ | exact Hid.out (by assumption) | exact Below.refl _ _))))).mono ?_; rintro e w3 ⟨rfl, hb3⟩
  have s3 := hb3.size; try simp at s3
  try (have l3_0_0_0 : w.heap.size < w3.heap.size := by omega)
  try (have l3_0_0_1 : w.heap.size < w3.heap.size + 1 := by omega)
  try (have l3_0_0_2 : w.heap.size < w3.heap.size + 1 + 1 := by omega)
  try (have l3_0_1_0 : w.heap.size + 1 < w3.heap.size := by omega)
  try (have l3_0_1_1 : w.heap.size + 1 < w3.heap.size + 1 := by omega)
  try (have l3_0_1_2 : w.heap.size + 1 < w3.heap.size + 1 + 1 := by omega)
  try (have l3_0_2_0 : w.heap.size + 2 < w3.heap.size := by omega)
  try (have l3_0_2_1 : w.heap.size + 2 < w3.heap.size + 1 := by omega)
  try (have l3_0_2_2 : w.heap.size + 2 < w3.heap.size + 1 + 1 := by omega)
  try (have e3_0_0_0 := hb3.cell (p := ⟨w.heap.size, 0, none⟩) (by first | (simp; done) | (simp; omega) | omega | (simp [World.setCell]; omega)); simp [go_sem, *] at e3_0_0_0)
  try (have f3_0_0_0 := hb3.frozen (p := ⟨w.heap.size, 0, none⟩) (by first | (simp; done) | (simp; omega) | omega | (simp [World.setCell]; omega)); simp [go_sem, *] at f3_0_0_0)
  try (have e3_0_0_1 := hb3.cell (p := ⟨w.heap.size, 1, none⟩) (by first | (simp; done) | (simp; omega) | omega | (simp [World.setCell]; omega)); simp [go_sem, *] at e3_0_0_1)
  try (have f3_0_0_1 := hb3.frozen (p := ⟨w.heap.size, 1, none⟩) (by first | (simp; done) | (simp; omega) | omega | (simp [World.setCell]; omega)); simp [go_sem, *] at f3_0_0_1)
  try (have e3_0_1_0 := hb3.cell (p := ⟨w.heap.size + 1, 0, none⟩) (by first | (simp; done) | (simp; omega) | omega | (simp [World.setCell]; omega)); simp [go_sem, *] at e3_0_1_0)
  try (have f3_0_1_0 := hb3.frozen (p := ⟨w.heap.size + 1, 0, none⟩) (by first | (simp; done) | (simp; omega) | omega | (simp [World.setCell]; omega)); simp [go_sem, *] at f3_0_1_0)
  try (have e3_0_1_1 := hb3.cell (p := ⟨w.heap.size + 1, 1, none⟩) (by first | (simp; done) | (simp; omega) | omega | (simp [World.setCell]; omega)); simp [go_sem, *] at e3_0_1_1)
  try (have f3_0_1_1 := hb3.frozen (p := ⟨w.heap.size + 1, 1, none⟩) (by first | (simp; done) | (simp; omega) | omega | (simp [World.setCell]; omega)); simp [go_sem, *] at f3_0_1_1)
  try (have e3_0_2_0 := hb3.cell (p := ⟨w.heap.size + 2, 0, none⟩) (by first | (simp; done) | (simp; omega) | omega | (simp [World.setCell]; omega)); simp [go_sem, *] at e3_0_2_0)
  try (have f3_0_2_0 := hb3.frozen (p := ⟨w.heap.size + 2, 0, none⟩) (by first | (simp; done) | (simp; omega) | omega | (simp [World.setCell]; omega)); simp [go_sem, *] at f3_0_2_0)
  try (have e3_0_2_1 := hb3.cell (p := ⟨w.heap.size + 2, 1, none⟩) (by first | (simp; done) | (simp; omega) | omega | (simp [World.setCell]; omega)); simp [go_sem, *] at e3_0_2_1)
  try (have f3_0_2_1 := hb3.frozen (p := ⟨w.heap.size + 2, 1, none⟩) (by first | (simp; done) | (simp; omega) | omega | (simp [World.setCell]; omega)); simp [go_sem, *] at f3_0_2_1)
  have HB3 := bel_step (w := w) (by (repeat' (first | refine Below.setCell ?_ (by first | (simp; done) | (simp; omega) | omega | (simp [World.setCell]; omega)) _ | refine Below.alloc ?_ (by first | (simp; done) | (simp; omega) | omega | (simp [World.setCell]; omega)) _ | refine below_drewN' ?_ _ | refine Below.drew ?_ | exact Hid.out (by assumption) | exact Below.refl _ _))) hb3
  clear hb3
  go_wp2_with (first | (go_at_call 239; refine (hNe _ (by (repeat' (first | refine Below.setCell ?_ (by first | (simp; done) | (simp; omega) | omega | (simp [World.setCell]; omega)) _ | refine Below.alloc ?_ (by first | (simp; done) | (simp; omega) | omega | (simp [World.setCell]; omega)) _ | refine below_drewN' ?_ _ | refine Below.drew ?_ | exact Hid.out (by assumption) | exact Below.refl _ _)))).mono ?_; rintro e w9 ⟨rfl, m9, rfl⟩))
  refine (nchild_any ns b _ (g2.below (by (repeat' (first | refine Below.setCell ?_ (by first | (simp; done) | (simp; omega) | omega | (simp [World.setCell]; omega)) _ | refine Below.alloc ?_ (by first | (simp; done) | (simp; omega) | omega | (simp [World.setCell]; omega)) _ | refine below_drewN' ?_ _ | refine Below.drew ?_ | exact Hid.out (by assumption) | exact Below.refl _ _))))).mono ?_; rintro e w4 ⟨rfl, hb4⟩
  have s4 := hb4.size; try simp at s4
  try (have l4_0_0_0 : w.heap.size < w4.heap.size := by omega)
  try (have l4_0_0_1 : w.heap.size < w4.heap.size + 1 := by omega)
  try (have l4_0_0_2 : w.heap.size < w4.heap.size + 1 + 1 := by omega)
  try (have l4_0_1_0 : w.heap.size + 1 < w4.heap.size := by omega)
  try (have l4_0_1_1 : w.heap.size + 1 < w4.heap.size + 1 := by omega)
  try (have l4_0_1_2 : w.heap.size + 1 < w4.heap.size + 1 + 1 := by omega)
  try (have l4_0_2_0 : w.heap.size + 2 < w4.heap.size := by omega)
  try (have l4_0_2_1 : w.heap.size + 2 < w4.heap.size + 1 := by omega)
  try (have l4_0_2_2 : w.heap.size + 2 < w4.heap.size + 1 + 1 := by omega)
  try (have e4_0_0_0 := hb4.cell (p := ⟨w.heap.size, 0, none⟩) (by first | (simp; done) | (simp; omega) | omega | (simp [World.setCell]; omega)); simp [go_sem, *] at e4_0_0_0)
  try (have f4_0_0_0 := hb4.frozen (p := ⟨w.heap.size, 0, none⟩) (by first | (simp; done) | (simp; omega) | omega | (simp [World.setCell]; omega)); simp [go_sem, *] at f4_0_0_0)
  try (have e4_0_0_1 := hb4.cell (p := ⟨w.heap.size, 1, none⟩) (by first | (simp; done) | (simp; omega) | omega | (simp [World.setCell]; omega)); simp [go_sem, *] at e4_0_0_1)
  try (have f4_0_0_1 := hb4.frozen (p := ⟨w.heap.size, 1, none⟩) (by first | (simp; done) | (simp; omega) | omega | (simp [World.setCell]; omega)); simp [go_sem, *] at f4_0_0_1)
  try (have e4_0_1_0 := hb4.cell (p := ⟨w.heap.size + 1, 0, none⟩) (by first | (simp; done) | (simp; omega) | omega | (simp [World.setCell]; omega)); simp [go_sem, *] at e4_0_1_0)
  try (have f4_0_1_0 := hb4.frozen (p := ⟨w.heap.size + 1, 0, none⟩) (by first | (simp; done) | (simp; omega) | omega | (simp [World.setCell]; omega)); simp [go_sem, *] at f4_0_1_0)
  try (have e4_0_1_1 := hb4.cell (p := ⟨w.heap.size + 1, 1, none⟩) (by first | (simp; done) | (simp; omega) | omega | (simp [World.setCell]; omega)); simp [go_sem, *] at e4_0_1_1)
  try (have f4_0_1_1 := hb4.frozen (p := ⟨w.heap.size + 1, 1, none⟩) (by first | (simp; done) | (simp; omega) | omega | (simp [World.setCell]; omega)); simp [go_sem, *] at f4_0_1_1)
  try (have e4_0_2_0 := hb4.cell (p := ⟨w.heap.size + 2, 0, none⟩) (by first | (simp; done) | (simp; omega) | omega | (simp [World.setCell]; omega)); simp [go_sem, *] at e4_0_2_0)
  try (have f4_0_2_0 := hb4.frozen (p := ⟨w.heap.size + 2, 0, none⟩) (by first | (simp; done) | (simp; omega) | omega | (simp [World.setCell]; omega)); simp [go_sem, *] at f4_0_2_0)
  try (have e4_0_2_1 := hb4.cell (p := ⟨w.heap.size + 2, 1, none⟩) (by first | (simp; done) | (simp; omega) | omega | (simp [World.setCell]; omega)); simp [go_sem, *] at e4_0_2_1)
  try (have f4_0_2_1 := hb4.frozen (p := ⟨w.heap.size + 2, 1, none⟩) (by first | (simp; done) | (simp; omega) | omega | (simp [World.setCell]; omega)); simp [go_sem, *] at f4_0_2_1)
  have HB4 := bel_step (w := w) (by (repeat' (first | refine Below.setCell ?_ (by first | (simp; done) | (simp; omega) | omega | (simp [World.setCell]; omega)) _ | refine Below.alloc ?_ (by first | (simp; done) | (simp; omega) | omega | (simp [World.setCell]; omega)) _ | refine below_drewN' ?_ _ | refine Below.drew ?_ | exact Hid.out (by assumption) | exact Below.refl _ _))) hb4
  clear hb4
  go_wp2_with fail
  try simp only [Exit.inBlock, Exit.then]
  refine bodyPost_ret (v := .tuple #[.agg #[.pointer (some ⟨p, 0, none⟩), .int .i64 1], .bool true]) (by simp [results, Tryz.results210, go_sem, *]) rfl ⟨rfl, by (repeat' (first | refine Below.setCell ?_ (by first | (simp; done) | (simp; omega) | omega | (simp [World.setCell]; omega)) _ | refine Below.alloc ?_ (by first | (simp; done) | (simp; omega) | omega | (simp [World.setCell]; omega)) _ | refine below_drewN' ?_ _ | refine Below.drew ?_ | exact Hid.out (by assumption) | exact Below.refl _ _))⟩
end Go.Proofs.YtjelneeeijjpiaaGreatDoor
end
section
namespace Go.Proofs.YtjelneeeijjpiaaGreatDoor
open Go.RowKit
theorem hp (s p : ByteArray) (r : Bool) (h : Lib.hasPrefix s.data.toList p.data.toList = r) (w : World) : Calls Tryz.prog 270 #[.string s, .string p] w fun e w' => e = .returned (.bool r) ∧ w = w' := by
  have := Tryz.strings_HasPrefix s p w
  rw [h] at this
  exact this.mono fun e w' ⟨h1, h2⟩ => ⟨h1, h2.symm⟩
set_option maxRecDepth 100000 in
set_option maxHeartbeats 1000000 in
theorem one_d (w : World) : Calls Tryz.prog 202 #[.string ⟨#[36, 91, 48, 93]⟩] w fun e w' => e = .returned (.tuple #[.agg #[.int .i64 1, .string ⟨#[36]⟩, .int .i64 0, .int .i64 0, .bool false], .int .i64 1, .int .i64 0]) ∧ Below w.heap.size w w' := by
  go_enter Tryz.func202, Tryz.ntmps202
  go_wp2_with (first | (go_at_call 270; (first | refine (hp _ _ true (by decide) _).mono ?_ | refine (hp _ _ false (by decide) _).mono ?_); rintro e w1 ⟨rfl, rfl⟩) | go_in | (refine wp_loop_unr 22 ?_; refine Unr.step ?_; intro U hU) | (refine Unr.step ?_; intro U hU))
  try simp only [Exit.inBlock, Exit.then]
  refine bodyPost_ret (v := .tuple #[.agg #[.int .i64 1, .string ⟨#[36]⟩, .int .i64 0, .int .i64 0, .bool false], .int .i64 1, .int .i64 0]) (by simp [results, Tryz.results202, go_sem]) rfl ⟨rfl, by repeat' (first | exact Below.refl _ _ | refine Below.alloc ?_ (by simp <;> omega) _ | refine Below.setCell ?_ (by simp <;> omega) _)⟩
set_option maxRecDepth 100000 in
set_option maxHeartbeats 1000000 in
theorem one_l (w : World) : Calls Tryz.prog 202 #[.string ⟨#[91, 48, 93]⟩] w fun e w' => e = .returned (.tuple #[.agg #[.int .i64 1, .string ⟨#[91]⟩, .int .i64 0, .int .i64 0, .bool false], .int .i64 1, .int .i64 0]) ∧ Below w.heap.size w w' := by
  go_enter Tryz.func202, Tryz.ntmps202
  go_wp2_with (first | (go_at_call 270; (first | refine (hp _ _ true (by decide) _).mono ?_ | refine (hp _ _ false (by decide) _).mono ?_); rintro e w1 ⟨rfl, rfl⟩) | go_in | (refine wp_loop_unr 22 ?_; refine Unr.step ?_; intro U hU) | (refine Unr.step ?_; intro U hU))
  try simp only [Exit.inBlock, Exit.then]
  refine bodyPost_ret (v := .tuple #[.agg #[.int .i64 1, .string ⟨#[91]⟩, .int .i64 0, .int .i64 0, .bool false], .int .i64 1, .int .i64 0]) (by simp [results, Tryz.results202, go_sem]) rfl ⟨rfl, by repeat' (first | exact Below.refl _ _ | refine Below.alloc ?_ (by simp <;> omega) _ | refine Below.setCell ?_ (by simp <;> omega) _)⟩
set_option maxRecDepth 100000 in
set_option maxHeartbeats 1000000 in
theorem one_0 (w : World) : Calls Tryz.prog 202 #[.string ⟨#[48, 93]⟩] w fun e w' => e = .returned (.tuple #[.agg #[.int .i64 3, .string ⟨#[]⟩, .int .i64 0, .int .i64 0, .bool false], .int .i64 1, .int .i64 0]) ∧ Below w.heap.size w w' := by
  go_enter Tryz.func202, Tryz.ntmps202
  go_wp2_with (first | (go_at_call 270; (first | refine (hp _ _ true (by decide) _).mono ?_ | refine (hp _ _ false (by decide) _).mono ?_); rintro e w1 ⟨rfl, rfl⟩) | go_in | (refine wp_loop_unr 22 ?_; refine Unr.step ?_; intro U hU) | (refine Unr.step ?_; intro U hU))
  try simp only [Exit.inBlock, Exit.then]
  refine bodyPost_ret (v := .tuple #[.agg #[.int .i64 3, .string ⟨#[]⟩, .int .i64 0, .int .i64 0, .bool false], .int .i64 1, .int .i64 0]) (by simp [results, Tryz.results202, go_sem]) rfl ⟨rfl, by repeat' (first | exact Below.refl _ _ | refine Below.alloc ?_ (by simp <;> omega) _ | refine Below.setCell ?_ (by simp <;> omega) _)⟩
set_option maxRecDepth 100000 in
set_option maxHeartbeats 1000000 in
theorem one_r (w : World) : Calls Tryz.prog 202 #[.string ⟨#[93]⟩] w fun e w' => e = .returned (.tuple #[.agg #[.int .i64 1, .string ⟨#[93]⟩, .int .i64 0, .int .i64 0, .bool false], .int .i64 1, .int .i64 0]) ∧ Below w.heap.size w w' := by
  go_enter Tryz.func202, Tryz.ntmps202
  go_wp2_with (first | (go_at_call 270; (first | refine (hp _ _ true (by decide) _).mono ?_ | refine (hp _ _ false (by decide) _).mono ?_); rintro e w1 ⟨rfl, rfl⟩) | go_in | (refine wp_loop_unr 22 ?_; refine Unr.step ?_; intro U hU) | (refine Unr.step ?_; intro U hU))
  try simp only [Exit.inBlock, Exit.then]
  refine bodyPost_ret (v := .tuple #[.agg #[.int .i64 1, .string ⟨#[93]⟩, .int .i64 0, .int .i64 0, .bool false], .int .i64 1, .int .i64 0]) (by simp [results, Tryz.results202, go_sem]) rfl ⟨rfl, by repeat' (first | exact Below.refl _ _ | refine Below.alloc ?_ (by simp <;> omega) _ | refine Below.setCell ?_ (by simp <;> omega) _)⟩
end Go.Proofs.YtjelneeeijjpiaaGreatDoor
end
