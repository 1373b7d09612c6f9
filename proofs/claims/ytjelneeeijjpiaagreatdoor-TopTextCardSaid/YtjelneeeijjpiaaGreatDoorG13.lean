/- TopText: walks and plain laws, part 13: lemmas on what the functions that the law comes to compute. -/
import Derived.Test.YtjelneeeijjpiaaGreatDoorG12
set_option linter.unusedVariables false
set_option linter.unusedSimpArgs false
section
namespace Go.Proofs.YtjelneeeijjpiaaGreatDoor
open Go.RowKit
structure Cu (w0 : World) (B p : Nat) (s : Int) (W : World) : Prop where
  bel : Below w0.heap.size w0 W
  lt : B < W.heap.size
  c0 : W.cell? ⟨B, 0, none⟩ = some (.pointer (some ⟨p, 0, none⟩))
  c1 : W.cell? ⟨B, 1, none⟩ = some (.int .i64 s)
theorem Cu.next {w0 W W' : World} {B p : Nat} {s : Int} (h : Cu w0 B p s W) (hb : Below W.heap.size W W') : Cu w0 B p s W' := ⟨h.bel.trans (hb.mono h.bel.size), Nat.lt_of_lt_of_le h.lt hb.size, (hb.cell (p := ⟨B, 0, none⟩) h.lt).trans h.c0, (hb.cell (p := ⟨B, 1, none⟩) h.lt).trans h.c1⟩
theorem Cu.held {w0 W : World} {B p : Nat} {s : Int} (h : Cu w0 B p s W) : W.cell? ⟨B, 0, none⟩ = some (.pointer (some ⟨p, 0, none⟩)) ∧ W.cell? ⟨B, 1, none⟩ = some (.int .i64 s) ∧ Hid (Cu w0 B p s W) := ⟨h.c0, h.c1, Lib.hid h⟩
def Kd (c : Int) (k : Nat) : Prop := c = 91 ∧ k = 4 ∨ c = 34 ∧ k = 3 ∨ ((c = 45 ∨ 48 ≤ c ∧ c ≤ 57) ∧ k = 2)
set_option maxRecDepth 100000 in
set_option maxHeartbeats 2000000 in
theorem kind_r (p n L : Nat) (T V : ByteArray) (hD : Doc T V n L) (w : World) (h : Ix w p T n) : Calls Tryz.prog 103 #[.agg #[.pointer (some ⟨p, 0, none⟩), .int .i64 (-1)]] w fun e w' => e = .returned (.int .i64 4) ∧ Below w.heap.size w w' := by
  have hn := hD.n3
  have hn1 := hD.n1
  have hL := hD.hL
  have hs := hD.hn
  have hv := hD.vs
  have h0 := hD.h0 (by omega)
  have k0 : (0 : Int) < (T.size : Int) := by omega
  go_enter Tryz.func103, Tryz.ntmps103
  go_wp2_with fail
  refine (raw_r p n L T V hD _ (h.below (by (repeat' (first | exact Below.refl _ _ | exact Hid.out (by assumption) | refine Below.alloc ?_ (by first | (simp; done) | (simp; omega) | omega) _ | refine Below.setCell ?_ (by first | (simp; done) | (simp; omega) | omega) _ | refine below_drewN' ?_ _ | refine Below.drew ?_))))).mono ?_; rintro e w1 ⟨rfl, hb1⟩
  have s1 := hb1.size; try simp at s1
  try (have l1_0_0_0 : w.heap.size < w1.heap.size := by omega)
  try (have l1_0_0_1 : w.heap.size < w1.heap.size + 1 := by omega)
  try (have l1_0_0_2 : w.heap.size < w1.heap.size + 1 + 1 := by omega)
  try (have e1_0_0_0 := hb1.cell (p := ⟨w.heap.size, 0, none⟩) (by first | (simp; done) | (simp; omega) | omega); simp [go_sem, *] at e1_0_0_0)
  try (have f1_0_0_0 := hb1.frozen (p := ⟨w.heap.size, 0, none⟩) (by first | (simp; done) | (simp; omega) | omega); simp [go_sem, *] at f1_0_0_0)
  try (have e1_0_0_1 := hb1.cell (p := ⟨w.heap.size, 1, none⟩) (by first | (simp; done) | (simp; omega) | omega); simp [go_sem, *] at e1_0_0_1)
  try (have f1_0_0_1 := hb1.frozen (p := ⟨w.heap.size, 1, none⟩) (by first | (simp; done) | (simp; omega) | omega); simp [go_sem, *] at f1_0_0_1)
  have HB1 := bel_step (w := w) (by (repeat' (first | exact Below.refl _ _ | exact Hid.out (by assumption) | refine Below.alloc ?_ (by first | (simp; done) | (simp; omega) | omega) _ | refine Below.setCell ?_ (by first | (simp; done) | (simp; omega) | omega) _ | refine below_drewN' ?_ _ | refine Below.drew ?_))) hb1
  clear hb1
  go_wp2_with fail
  go_ret
  exact ⟨rfl, by (repeat' (first | exact Below.refl _ _ | exact Hid.out (by assumption) | refine Below.alloc ?_ (by first | (simp; done) | (simp; omega) | omega) _ | refine Below.setCell ?_ (by first | (simp; done) | (simp; omega) | omega) _ | refine below_drewN' ?_ _ | refine Below.drew ?_))⟩
set_option maxRecDepth 100000 in
set_option maxHeartbeats 2000000 in
theorem kind_s (p n L : Nat) (T V : ByteArray) (hD : Doc T V n L) (hV : 0 < V.size) (hc : ((V[0]'hV).toNat : Int) = 34) (w : World) (h : Ix w p T n) : Calls Tryz.prog 103 #[.agg #[.pointer (some ⟨p, 0, none⟩), .int .i64 1]] w fun e w' => e = .returned (.int .i64 3) ∧ Below w.heap.size w w' := by
  have hn := hD.n3
  have hn1 := hD.n1
  have hL := hD.hL
  have hs := hD.hn
  have hv := hD.vs
  have k0 : (0 : Int) < (V.size : Int) := by omega
  go_enter Tryz.func103, Tryz.ntmps103
  go_wp2_with fail
  refine (raw_1 p n L T V hD _ (h.below (by (repeat' (first | exact Below.refl _ _ | exact Hid.out (by assumption) | refine Below.alloc ?_ (by first | (simp; done) | (simp; omega) | omega) _ | refine Below.setCell ?_ (by first | (simp; done) | (simp; omega) | omega) _ | refine below_drewN' ?_ _ | refine Below.drew ?_))))).mono ?_; rintro e w1 ⟨rfl, hb1⟩
  have s1 := hb1.size; try simp at s1
  try (have l1_0_0_0 : w.heap.size < w1.heap.size := by omega)
  try (have l1_0_0_1 : w.heap.size < w1.heap.size + 1 := by omega)
  try (have l1_0_0_2 : w.heap.size < w1.heap.size + 1 + 1 := by omega)
  try (have e1_0_0_0 := hb1.cell (p := ⟨w.heap.size, 0, none⟩) (by first | (simp; done) | (simp; omega) | omega); simp [go_sem, *] at e1_0_0_0)
  try (have f1_0_0_0 := hb1.frozen (p := ⟨w.heap.size, 0, none⟩) (by first | (simp; done) | (simp; omega) | omega); simp [go_sem, *] at f1_0_0_0)
  try (have e1_0_0_1 := hb1.cell (p := ⟨w.heap.size, 1, none⟩) (by first | (simp; done) | (simp; omega) | omega); simp [go_sem, *] at e1_0_0_1)
  try (have f1_0_0_1 := hb1.frozen (p := ⟨w.heap.size, 1, none⟩) (by first | (simp; done) | (simp; omega) | omega); simp [go_sem, *] at f1_0_0_1)
  have HB1 := bel_step (w := w) (by (repeat' (first | exact Below.refl _ _ | exact Hid.out (by assumption) | refine Below.alloc ?_ (by first | (simp; done) | (simp; omega) | omega) _ | refine Below.setCell ?_ (by first | (simp; done) | (simp; omega) | omega) _ | refine below_drewN' ?_ _ | refine Below.drew ?_))) hb1
  clear hb1
  go_wp2_with fail
  go_ret
  exact ⟨rfl, by (repeat' (first | exact Below.refl _ _ | exact Hid.out (by assumption) | refine Below.alloc ?_ (by first | (simp; done) | (simp; omega) | omega) _ | refine Below.setCell ?_ (by first | (simp; done) | (simp; omega) | omega) _ | refine below_drewN' ?_ _ | refine Below.drew ?_))⟩
set_option maxRecDepth 100000 in
set_option maxHeartbeats 2000000 in
theorem kind_n (p n L : Nat) (T V : ByteArray) (hD : Doc T V n L) (hV : 0 < V.size) (c : Int) (hc : ((V[0]'hV).toNat : Int) = c) (hk : c = 45 ∨ 48 ≤ c ∧ c ≤ 57) (w : World) (h : Ix w p T n) : Calls Tryz.prog 103 #[.agg #[.pointer (some ⟨p, 0, none⟩), .int .i64 1]] w fun e w' => e = .returned (.int .i64 2) ∧ Below w.heap.size w w' := by
  have hn := hD.n3
  have hn1 := hD.n1
  have hL := hD.hL
  have hs := hD.hn
  have hv := hD.vs
  have k0 : (0 : Int) < (V.size : Int) := by omega
  have q1 : (c == 110) = false := by rw [beq_eq_false_iff_ne]; omega
  have q2 : (c == 116) = false := by rw [beq_eq_false_iff_ne]; omega
  have q3 : (c == 102) = false := by rw [beq_eq_false_iff_ne]; omega
  have q4 : (c == 34) = false := by rw [beq_eq_false_iff_ne]; omega
  have q5 : (c == 91) = false := by rw [beq_eq_false_iff_ne]; omega
  have q6 : (c == 123) = false := by rw [beq_eq_false_iff_ne]; omega
  go_enter Tryz.func103, Tryz.ntmps103
  go_wp2_with fail
  refine (raw_1 p n L T V hD _ (h.below (by (repeat' (first | exact Below.refl _ _ | exact Hid.out (by assumption) | refine Below.alloc ?_ (by first | (simp; done) | (simp; omega) | omega) _ | refine Below.setCell ?_ (by first | (simp; done) | (simp; omega) | omega) _ | refine below_drewN' ?_ _ | refine Below.drew ?_))))).mono ?_; rintro e w1 ⟨rfl, hb1⟩
  have s1 := hb1.size; try simp at s1
  try (have l1_0_0_0 : w.heap.size < w1.heap.size := by omega)
  try (have l1_0_0_1 : w.heap.size < w1.heap.size + 1 := by omega)
  try (have l1_0_0_2 : w.heap.size < w1.heap.size + 1 + 1 := by omega)
  try (have e1_0_0_0 := hb1.cell (p := ⟨w.heap.size, 0, none⟩) (by first | (simp; done) | (simp; omega) | omega); simp [go_sem, *] at e1_0_0_0)
  try (have f1_0_0_0 := hb1.frozen (p := ⟨w.heap.size, 0, none⟩) (by first | (simp; done) | (simp; omega) | omega); simp [go_sem, *] at f1_0_0_0)
  try (have e1_0_0_1 := hb1.cell (p := ⟨w.heap.size, 1, none⟩) (by first | (simp; done) | (simp; omega) | omega); simp [go_sem, *] at e1_0_0_1)
  try (have f1_0_0_1 := hb1.frozen (p := ⟨w.heap.size, 1, none⟩) (by first | (simp; done) | (simp; omega) | omega); simp [go_sem, *] at f1_0_0_1)
  have HB1 := bel_step (w := w) (by (repeat' (first | exact Below.refl _ _ | exact Hid.out (by assumption) | refine Below.alloc ?_ (by first | (simp; done) | (simp; omega) | omega) _ | refine Below.setCell ?_ (by first | (simp; done) | (simp; omega) | omega) _ | refine below_drewN' ?_ _ | refine Below.drew ?_))) hb1
  clear hb1
  go_wp2_with fail
  go_ret
  exact ⟨rfl, by (repeat' (first | exact Below.refl _ _ | exact Hid.out (by assumption) | refine Below.alloc ?_ (by first | (simp; done) | (simp; omega) | omega) _ | refine Below.setCell ?_ (by first | (simp; done) | (simp; omega) | omega) _ | refine below_drewN' ?_ _ | refine Below.drew ?_))⟩
theorem kind_1 (p n L : Nat) (T V : ByteArray) (hD : Doc T V n L) (c : Int) (k : Nat) (hV : 0 < V.size) (hc : ((V[0]'hV).toNat : Int) = c) (hk : Kd c k) (hk4 : k < 4) (w : World) (h : Ix w p T n) : Calls Tryz.prog 103 #[.agg #[.pointer (some ⟨p, 0, none⟩), .int .i64 1]] w fun e w' => e = .returned (.int .i64 (k : Nat)) ∧ Below w.heap.size w w' := by
  rcases hk with ⟨rfl, rfl⟩ | ⟨rfl, rfl⟩ | ⟨h1, rfl⟩
  · omega
  · exact kind_s p n L T V hD hV hc w h
  · exact kind_n p n L T V hD hV c hc h1 w h
set_option maxRecDepth 100000 in
set_option maxHeartbeats 2000000 in
theorem none_1 (p n L : Nat) (T V : ByteArray) (hD : Doc T V n L) (w : World) (h : Ix w p T n) : Calls Tryz.prog 303 #[.agg #[.pointer (some ⟨p, 0, none⟩), .int .i64 1]] w fun e w' => e = .returned (.agg #[.int .i64 (L : Nat), .int .i64 (L : Nat)]) ∧ Below w.heap.size w w' := by
  have hn := hD.n3
  have hn1 := hD.n1
  have hL := hD.hL
  have hs := hD.hn
  have hv := hD.vs
  go_enter Tryz.func303, Tryz.ntmps303
  go_wp2_with fail
  refine (zone_1 p n L T V hD _ (h.below (by (repeat' (first | exact Below.refl _ _ | exact Hid.out (by assumption) | refine Below.alloc ?_ (by first | (simp; done) | (simp; omega) | omega) _ | refine Below.setCell ?_ (by first | (simp; done) | (simp; omega) | omega) _ | refine below_drewN' ?_ _ | refine Below.drew ?_))))).mono ?_; rintro e w1 ⟨rfl, hb1⟩
  have s1 := hb1.size; try simp at s1
  try (have l1_0_0_0 : w.heap.size < w1.heap.size := by omega)
  try (have l1_0_0_1 : w.heap.size < w1.heap.size + 1 := by omega)
  try (have l1_0_0_2 : w.heap.size < w1.heap.size + 1 + 1 := by omega)
  try (have l1_0_1_0 : w.heap.size + 1 < w1.heap.size := by omega)
  try (have l1_0_1_1 : w.heap.size + 1 < w1.heap.size + 1 := by omega)
  try (have l1_0_1_2 : w.heap.size + 1 < w1.heap.size + 1 + 1 := by omega)
  try (have l1_0_2_0 : w.heap.size + 2 < w1.heap.size := by omega)
  try (have l1_0_2_1 : w.heap.size + 2 < w1.heap.size + 1 := by omega)
  try (have l1_0_2_2 : w.heap.size + 2 < w1.heap.size + 1 + 1 := by omega)
  try (have e1_0_0_0 := hb1.cell (p := ⟨w.heap.size, 0, none⟩) (by first | (simp; done) | (simp; omega) | omega); simp [go_sem, *] at e1_0_0_0)
  try (have f1_0_0_0 := hb1.frozen (p := ⟨w.heap.size, 0, none⟩) (by first | (simp; done) | (simp; omega) | omega); simp [go_sem, *] at f1_0_0_0)
  try (have e1_0_0_1 := hb1.cell (p := ⟨w.heap.size, 1, none⟩) (by first | (simp; done) | (simp; omega) | omega); simp [go_sem, *] at e1_0_0_1)
  try (have f1_0_0_1 := hb1.frozen (p := ⟨w.heap.size, 1, none⟩) (by first | (simp; done) | (simp; omega) | omega); simp [go_sem, *] at f1_0_0_1)
  try (have e1_0_1_0 := hb1.cell (p := ⟨w.heap.size + 1, 0, none⟩) (by first | (simp; done) | (simp; omega) | omega); simp [go_sem, *] at e1_0_1_0)
  try (have f1_0_1_0 := hb1.frozen (p := ⟨w.heap.size + 1, 0, none⟩) (by first | (simp; done) | (simp; omega) | omega); simp [go_sem, *] at f1_0_1_0)
  try (have e1_0_1_1 := hb1.cell (p := ⟨w.heap.size + 1, 1, none⟩) (by first | (simp; done) | (simp; omega) | omega); simp [go_sem, *] at e1_0_1_1)
  try (have f1_0_1_1 := hb1.frozen (p := ⟨w.heap.size + 1, 1, none⟩) (by first | (simp; done) | (simp; omega) | omega); simp [go_sem, *] at f1_0_1_1)
  try (have e1_0_2_0 := hb1.cell (p := ⟨w.heap.size + 2, 0, none⟩) (by first | (simp; done) | (simp; omega) | omega); simp [go_sem, *] at e1_0_2_0)
  try (have f1_0_2_0 := hb1.frozen (p := ⟨w.heap.size + 2, 0, none⟩) (by first | (simp; done) | (simp; omega) | omega); simp [go_sem, *] at f1_0_2_0)
  try (have e1_0_2_1 := hb1.cell (p := ⟨w.heap.size + 2, 1, none⟩) (by first | (simp; done) | (simp; omega) | omega); simp [go_sem, *] at e1_0_2_1)
  try (have f1_0_2_1 := hb1.frozen (p := ⟨w.heap.size + 2, 1, none⟩) (by first | (simp; done) | (simp; omega) | omega); simp [go_sem, *] at f1_0_2_1)
  have HB1 := bel_step (w := w) (by (repeat' (first | exact Below.refl _ _ | exact Hid.out (by assumption) | refine Below.alloc ?_ (by first | (simp; done) | (simp; omega) | omega) _ | refine Below.setCell ?_ (by first | (simp; done) | (simp; omega) | omega) _ | refine below_drewN' ?_ _ | refine Below.drew ?_))) hb1
  clear hb1
  go_wp2_with fail
  try simp only [Exit.inBlock, Exit.then]
  refine bodyPost_ret (v := .agg #[.int .i64 (L : Nat), .int .i64 (L : Nat)]) (by simp [results, Tryz.results303, go_sem, *]) rfl ⟨rfl, by (repeat' (first | exact Below.refl _ _ | exact Hid.out (by assumption) | refine Below.alloc ?_ (by first | (simp; done) | (simp; omega) | omega) _ | refine Below.setCell ?_ (by first | (simp; done) | (simp; omega) | omega) _ | refine below_drewN' ?_ _ | refine Below.drew ?_))⟩
set_option maxRecDepth 100000 in
set_option maxHeartbeats 2000000 in
theorem inner_r (p n L : Nat) (T V : ByteArray) (hD : Doc T V n L) (w : World) (h : Ix w p T n) : Calls Tryz.prog 253 #[.agg #[.pointer (some ⟨p, 0, none⟩), .int .i64 (-1)]] w fun e w' => e = .returned (.tuple #[.int .i64 0, .bool true]) ∧ Below w.heap.size w w' := by
  have hn := hD.n3
  have hn1 := hD.n1
  have hL := hD.hL
  have hs := hD.hn
  have hv := hD.vs
  have k1 : ((1 : Int) == (L : Int)) = false := by rw [beq_eq_false_iff_ne]; omega
  have k2 : ¬ (1 : Int) = (L : Int) := by omega
  go_enter Tryz.func253, Tryz.ntmps253
  go_wp2_with fail
  refine (kind_r p n L T V hD _ (h.below (by (repeat' (first | exact Below.refl _ _ | exact Hid.out (by assumption) | refine Below.alloc ?_ (by first | (simp; done) | (simp; omega) | omega) _ | refine Below.setCell ?_ (by first | (simp; done) | (simp; omega) | omega) _ | refine below_drewN' ?_ _ | refine Below.drew ?_))))).mono ?_; rintro e w1 ⟨rfl, hb1⟩
  have s1 := hb1.size; try simp at s1
  try (have l1_0_0_0 : w.heap.size < w1.heap.size := by omega)
  try (have l1_0_0_1 : w.heap.size < w1.heap.size + 1 := by omega)
  try (have l1_0_0_2 : w.heap.size < w1.heap.size + 1 + 1 := by omega)
  try (have e1_0_0_0 := hb1.cell (p := ⟨w.heap.size, 0, none⟩) (by first | (simp; done) | (simp; omega) | omega); simp [go_sem, *] at e1_0_0_0)
  try (have f1_0_0_0 := hb1.frozen (p := ⟨w.heap.size, 0, none⟩) (by first | (simp; done) | (simp; omega) | omega); simp [go_sem, *] at f1_0_0_0)
  try (have e1_0_0_1 := hb1.cell (p := ⟨w.heap.size, 1, none⟩) (by first | (simp; done) | (simp; omega) | omega); simp [go_sem, *] at e1_0_0_1)
  try (have f1_0_0_1 := hb1.frozen (p := ⟨w.heap.size, 1, none⟩) (by first | (simp; done) | (simp; omega) | omega); simp [go_sem, *] at f1_0_0_1)
  have HB1 := bel_step (w := w) (by (repeat' (first | exact Below.refl _ _ | exact Hid.out (by assumption) | refine Below.alloc ?_ (by first | (simp; done) | (simp; omega) | omega) _ | refine Below.setCell ?_ (by first | (simp; done) | (simp; omega) | omega) _ | refine below_drewN' ?_ _ | refine Below.drew ?_))) hb1
  clear hb1
  go_wp2_with fail
  have HC : Hid (Cu w w.heap.size p (-1) w1) := Lib.hid ⟨HB1.out, l1_0_0_0, e1_0_0_0, e1_0_0_1⟩
  have HCd := Lib.hid (HC.out.next ((Below.refl _ _).drew))
  have hs1 : ∀ (W : World) (hW : Cu w w.heap.size p (-1) W), Calls Tryz.prog 141 #[.agg #[.pointer (some ⟨p, 0, none⟩), .int .i64 1]] W fun e w' => e = .returned (.agg #[.int .i64 1, .int .i64 (L : Nat)]) ∧ Cu w w.heap.size p (-1) w' := fun W hW => (span_1 p n L T V hD W (h.below hW.bel)).mono fun e w' ⟨a, b⟩ => ⟨a, hW.next b⟩
  have hs2 : ∀ (W : World) (hW : Cu w w.heap.size p (-1) W), Calls Tryz.prog 303 #[.agg #[.pointer (some ⟨p, 0, none⟩), .int .i64 1]] W fun e w' => e = .returned (.agg #[.int .i64 (L : Nat), .int .i64 (L : Nat)]) ∧ Cu w w.heap.size p (-1) w' := fun W hW => (none_1 p n L T V hD W (h.below hW.bel)).mono fun e w' ⟨a, b⟩ => ⟨a, hW.next b⟩
  go_region_held3 (fun w' => w'.cell? ⟨w.heap.size, 0, none⟩ = some (.pointer (some ⟨p, 0, none⟩)) ∧ w'.cell? ⟨w.heap.size, 1, none⟩ = some (.int .i64 (-1)) ∧ Hid (Cu w w.heap.size p (-1) w')) (first | assumption | exact Cu.held HC.out | exact Cu.held HCd.out | exact Cu.held (Hid.out (by assumption))) (first | (go_at_call 141; refine (hs1 _ (Hid.out (by first | exact HC | exact HCd | assumption))).mono ?_; rintro e w5 ⟨rfl, hb⟩; have HX := Lib.hid hb; clear hb) | (go_at_call 303; refine (hs2 _ (Hid.out (by first | exact HC | exact HCd | assumption))).mono ?_; rintro e w5 ⟨rfl, hb⟩; have HX := Lib.hid hb; clear hb))
  go_wp2_with fail
  go_ret2
  exact ⟨rfl, HX.out.bel⟩
set_option maxRecDepth 100000 in
set_option maxHeartbeats 2000000 in
theorem inner_1 (p n L : Nat) (T V : ByteArray) (hD : Doc T V n L) (c : Int) (k : Nat) (hV : 0 < V.size) (hc : ((V[0]'hV).toNat : Int) = c) (hk : Kd c k) (hk4 : k < 4) (w : World) (h : Ix w p T n) : Calls Tryz.prog 253 #[.agg #[.pointer (some ⟨p, 0, none⟩), .int .i64 1]] w fun e w' => e = .returned (.tuple #[.int .i64 0, .bool false]) ∧ Below w.heap.size w w' := by
  have hn := hD.n3
  have hn1 := hD.n1
  have hL := hD.hL
  have hs := hD.hn
  have hv := hD.vs
  have k3 : ¬ (k : Int) = 4 := by omega
  have k4 : ¬ (k : Int) = 5 := by omega
  have k5 : ((k : Int) != 4) = true := by rw [bne_iff_ne]; omega
  have k6 : ((k : Int) != 5) = true := by rw [bne_iff_ne]; omega
  go_enter Tryz.func253, Tryz.ntmps253
  go_wp2_with fail
  refine (kind_1 p n L T V hD c k hV hc hk hk4 _ (h.below (by (repeat' (first | exact Below.refl _ _ | exact Hid.out (by assumption) | refine Below.alloc ?_ (by first | (simp; done) | (simp; omega) | omega) _ | refine Below.setCell ?_ (by first | (simp; done) | (simp; omega) | omega) _ | refine below_drewN' ?_ _ | refine Below.drew ?_))))).mono ?_; rintro e w1 ⟨rfl, hb1⟩
  have s1 := hb1.size; try simp at s1
  try (have l1_0_0_0 : w.heap.size < w1.heap.size := by omega)
  try (have l1_0_0_1 : w.heap.size < w1.heap.size + 1 := by omega)
  try (have l1_0_0_2 : w.heap.size < w1.heap.size + 1 + 1 := by omega)
  try (have e1_0_0_0 := hb1.cell (p := ⟨w.heap.size, 0, none⟩) (by first | (simp; done) | (simp; omega) | omega); simp [go_sem, *] at e1_0_0_0)
  try (have f1_0_0_0 := hb1.frozen (p := ⟨w.heap.size, 0, none⟩) (by first | (simp; done) | (simp; omega) | omega); simp [go_sem, *] at f1_0_0_0)
  try (have e1_0_0_1 := hb1.cell (p := ⟨w.heap.size, 1, none⟩) (by first | (simp; done) | (simp; omega) | omega); simp [go_sem, *] at e1_0_0_1)
  try (have f1_0_0_1 := hb1.frozen (p := ⟨w.heap.size, 1, none⟩) (by first | (simp; done) | (simp; omega) | omega); simp [go_sem, *] at f1_0_0_1)
  have HB1 := bel_step (w := w) (by (repeat' (first | exact Below.refl _ _ | exact Hid.out (by assumption) | refine Below.alloc ?_ (by first | (simp; done) | (simp; omega) | omega) _ | refine Below.setCell ?_ (by first | (simp; done) | (simp; omega) | omega) _ | refine below_drewN' ?_ _ | refine Below.drew ?_))) hb1
  clear hb1
  go_wp2_with fail
  go_ret2
  exact ⟨rfl, by (repeat' (first | exact Below.refl _ _ | exact Hid.out (by assumption) | refine Below.alloc ?_ (by first | (simp; done) | (simp; omega) | omega) _ | refine Below.setCell ?_ (by first | (simp; done) | (simp; omega) | omega) _ | refine below_drewN' ?_ _ | refine Below.drew ?_))⟩
set_option maxRecDepth 100000 in
set_option maxHeartbeats 2000000 in
theorem up_r (p n L : Nat) (T V : ByteArray) (hD : Doc T V n L) (w : World) (h : Ix w p T n) : Calls Tryz.prog 248 #[.agg #[.pointer (some ⟨p, 0, none⟩), .int .i64 (-1)]] w fun e w' => e = .returned (.tuple #[.int .i64 0, .bool false]) ∧ Below w.heap.size w w' := by
  have hn := hD.n3
  have hn1 := hD.n1
  have hL := hD.hL
  have hs := hD.hn
  have hv := hD.vs
  go_enter Tryz.func248, Tryz.ntmps248
  go_wp2_with fail
  go_ret2
  exact ⟨rfl, by (repeat' (first | exact Below.refl _ _ | exact Hid.out (by assumption) | refine Below.alloc ?_ (by first | (simp; done) | (simp; omega) | omega) _ | refine Below.setCell ?_ (by first | (simp; done) | (simp; omega) | omega) _ | refine below_drewN' ?_ _ | refine Below.drew ?_))⟩
set_option maxRecDepth 100000 in
set_option maxHeartbeats 2000000 in
theorem up_1 (p n L : Nat) (T V : ByteArray) (hD : Doc T V n L) (w : World) (h : Ix w p T n) : Calls Tryz.prog 248 #[.agg #[.pointer (some ⟨p, 0, none⟩), .int .i64 1]] w fun e w' => e = .returned (.tuple #[.int .i64 0, .bool true]) ∧ Below w.heap.size w w' := by
  have hn := hD.n3
  have hn1 := hD.n1
  have hL := hD.hL
  have hs := hD.hn
  have hv := hD.vs
  obtain ⟨sq, b, ns, a1, x0, x1, x2, x3, g1, g2, g3⟩ := id h
  have hNe := xnest_q p ns w a1 x2
  have hPa : ∀ (W : World) (hW : Below w.heap.size w W), _ := fun W hW => nParent_any ns b W (g2.below hW)
  go_enter Tryz.func248, Tryz.ntmps248
  go_wp2_with fail
  go_quiet ((first | (go_at_call 239; exact quiet_ex (hNe _ (by (repeat' (first | exact Below.refl _ _ | exact Hid.out (by assumption) | refine Below.alloc ?_ (by first | (simp; done) | (simp; omega) | omega) _ | refine Below.setCell ?_ (by first | (simp; done) | (simp; omega) | omega) _ | refine below_drewN' ?_ _ | refine Below.drew ?_))))) | (go_at_call 299; exact quiet_ex (hPa _ (by (repeat' (first | exact Below.refl _ _ | exact Hid.out (by assumption) | refine Below.alloc ?_ (by first | (simp; done) | (simp; omega) | omega) _ | refine Below.setCell ?_ (by first | (simp; done) | (simp; omega) | omega) _ | refine below_drewN' ?_ _ | refine Below.drew ?_)))))))
  go_wp2_with fail
  go_ret2
  exact ⟨rfl, by (repeat' (first | exact Below.refl _ _ | exact Hid.out (by assumption) | refine Below.alloc ?_ (by first | (simp; done) | (simp; omega) | omega) _ | refine Below.setCell ?_ (by first | (simp; done) | (simp; omega) | omega) _ | refine below_drewN' ?_ _ | refine Below.drew ?_))⟩
set_option maxRecDepth 100000 in
set_option maxHeartbeats 2000000 in
theorem member_0 (p n L : Nat) (T V : ByteArray) (hD : Doc T V n L) (s : Int) (w : World) (h : Ix w p T n) : Calls Tryz.prog 256 #[.agg #[.pointer (some ⟨p, 0, none⟩), .int .i64 s], .int .i64 0] w fun e w' => e = .returned (.bool false) ∧ Below w.heap.size w w' := by
  have hn := hD.n3
  have hn1 := hD.n1
  have hL := hD.hL
  have hs := hD.hn
  have hv := hD.vs
  have hTx := xtext_q p n L T V hD w h
  have h0 := hD.h0 (by omega)
  have k0 : (0 : Int) < (T.size : Int) := by omega
  go_enter Tryz.func256, Tryz.ntmps256
  go_wp2_with fail
  refine (xmark_0 p n T hn hn1 _ (h.below (by (repeat' (first | exact Below.refl _ _ | exact Hid.out (by assumption) | refine Below.alloc ?_ (by first | (simp; done) | (simp; omega) | omega) _ | refine Below.setCell ?_ (by first | (simp; done) | (simp; omega) | omega) _ | refine below_drewN' ?_ _ | refine Below.drew ?_))))).mono ?_; rintro e w1 ⟨rfl, hb1⟩
  have s1 := hb1.size; try simp at s1
  try (have l1_0_0_0 : w.heap.size < w1.heap.size := by omega)
  try (have l1_0_0_1 : w.heap.size < w1.heap.size + 1 := by omega)
  try (have l1_0_0_2 : w.heap.size < w1.heap.size + 1 + 1 := by omega)
  try (have e1_0_0_0 := hb1.cell (p := ⟨w.heap.size, 0, none⟩) (by first | (simp; done) | (simp; omega) | omega); simp [go_sem, *] at e1_0_0_0)
  try (have f1_0_0_0 := hb1.frozen (p := ⟨w.heap.size, 0, none⟩) (by first | (simp; done) | (simp; omega) | omega); simp [go_sem, *] at f1_0_0_0)
  try (have e1_0_0_1 := hb1.cell (p := ⟨w.heap.size, 1, none⟩) (by first | (simp; done) | (simp; omega) | omega); simp [go_sem, *] at e1_0_0_1)
  try (have f1_0_0_1 := hb1.frozen (p := ⟨w.heap.size, 1, none⟩) (by first | (simp; done) | (simp; omega) | omega); simp [go_sem, *] at f1_0_0_1)
  have HB1 := bel_step (w := w) (by (repeat' (first | exact Below.refl _ _ | exact Hid.out (by assumption) | refine Below.alloc ?_ (by first | (simp; done) | (simp; omega) | omega) _ | refine Below.setCell ?_ (by first | (simp; done) | (simp; omega) | omega) _ | refine below_drewN' ?_ _ | refine Below.drew ?_))) hb1
  clear hb1
  go_wp2_with (first | (go_at_call 156; refine (xtext_any p n T _ (h.below (by (repeat' (first | exact Below.refl _ _ | exact Hid.out (by assumption) | refine Below.alloc ?_ (by first | (simp; done) | (simp; omega) | omega) _ | refine Below.setCell ?_ (by first | (simp; done) | (simp; omega) | omega) _ | refine below_drewN' ?_ _ | refine Below.drew ?_))))).mono ?_; rintro e w9 ⟨rfl, rfl⟩))
  go_wp2_with fail
  go_ret
  exact ⟨rfl, by (repeat' (first | exact Below.refl _ _ | exact Hid.out (by assumption) | refine Below.alloc ?_ (by first | (simp; done) | (simp; omega) | omega) _ | refine Below.setCell ?_ (by first | (simp; done) | (simp; omega) | omega) _ | refine below_drewN' ?_ _ | refine Below.drew ?_))⟩
set_option maxRecDepth 100000 in
set_option maxHeartbeats 2000000 in
theorem key_1 (p n L : Nat) (T V : ByteArray) (hD : Doc T V n L) (w : World) (h : Ix w p T n) : Calls Tryz.prog 249 #[.agg #[.pointer (some ⟨p, 0, none⟩), .int .i64 1]] w fun e w' => e = .returned (.tuple #[.string ⟨#[]⟩, .bool false]) ∧ Below w.heap.size w w' := by
  have hn := hD.n3
  have hn1 := hD.n1
  have hL := hD.hL
  have hs := hD.hn
  have hv := hD.vs
  go_enter Tryz.func249, Tryz.ntmps249
  go_wp2_with fail
  refine (up_1 p n L T V hD _ (h.below (by (repeat' (first | exact Below.refl _ _ | exact Hid.out (by assumption) | refine Below.alloc ?_ (by first | (simp; done) | (simp; omega) | omega) _ | refine Below.setCell ?_ (by first | (simp; done) | (simp; omega) | omega) _ | refine below_drewN' ?_ _ | refine Below.drew ?_))))).mono ?_; rintro e w1 ⟨rfl, hb1⟩
  have s1 := hb1.size; try simp at s1
  try (have l1_0_0_0 : w.heap.size < w1.heap.size := by omega)
  try (have l1_0_0_1 : w.heap.size < w1.heap.size + 1 := by omega)
  try (have l1_0_0_2 : w.heap.size < w1.heap.size + 1 + 1 := by omega)
  try (have e1_0_0_0 := hb1.cell (p := ⟨w.heap.size, 0, none⟩) (by first | (simp; done) | (simp; omega) | omega); simp [go_sem, *] at e1_0_0_0)
  try (have f1_0_0_0 := hb1.frozen (p := ⟨w.heap.size, 0, none⟩) (by first | (simp; done) | (simp; omega) | omega); simp [go_sem, *] at f1_0_0_0)
  try (have e1_0_0_1 := hb1.cell (p := ⟨w.heap.size, 1, none⟩) (by first | (simp; done) | (simp; omega) | omega); simp [go_sem, *] at e1_0_0_1)
  try (have f1_0_0_1 := hb1.frozen (p := ⟨w.heap.size, 1, none⟩) (by first | (simp; done) | (simp; omega) | omega); simp [go_sem, *] at f1_0_0_1)
  have HB1 := bel_step (w := w) (by (repeat' (first | exact Below.refl _ _ | exact Hid.out (by assumption) | refine Below.alloc ?_ (by first | (simp; done) | (simp; omega) | omega) _ | refine Below.setCell ?_ (by first | (simp; done) | (simp; omega) | omega) _ | refine below_drewN' ?_ _ | refine Below.drew ?_))) hb1
  clear hb1
  go_wp2_with fail
  refine (member_0 p n L T V hD 1 _ (h.below (by (repeat' (first | exact Below.refl _ _ | exact Hid.out (by assumption) | refine Below.alloc ?_ (by first | (simp; done) | (simp; omega) | omega) _ | refine Below.setCell ?_ (by first | (simp; done) | (simp; omega) | omega) _ | refine below_drewN' ?_ _ | refine Below.drew ?_))))).mono ?_; rintro e w2 ⟨rfl, hb2⟩
  have s2 := hb2.size; try simp at s2
  try (have l2_0_0_0 : w.heap.size < w2.heap.size := by omega)
  try (have l2_0_0_1 : w.heap.size < w2.heap.size + 1 := by omega)
  try (have l2_0_0_2 : w.heap.size < w2.heap.size + 1 + 1 := by omega)
  try (have e2_0_0_0 := hb2.cell (p := ⟨w.heap.size, 0, none⟩) (by first | (simp; done) | (simp; omega) | omega); simp [go_sem, *] at e2_0_0_0)
  try (have f2_0_0_0 := hb2.frozen (p := ⟨w.heap.size, 0, none⟩) (by first | (simp; done) | (simp; omega) | omega); simp [go_sem, *] at f2_0_0_0)
  try (have e2_0_0_1 := hb2.cell (p := ⟨w.heap.size, 1, none⟩) (by first | (simp; done) | (simp; omega) | omega); simp [go_sem, *] at e2_0_0_1)
  try (have f2_0_0_1 := hb2.frozen (p := ⟨w.heap.size, 1, none⟩) (by first | (simp; done) | (simp; omega) | omega); simp [go_sem, *] at f2_0_0_1)
  have HB2 := bel_step (w := w) (by (repeat' (first | exact Below.refl _ _ | exact Hid.out (by assumption) | refine Below.alloc ?_ (by first | (simp; done) | (simp; omega) | omega) _ | refine Below.setCell ?_ (by first | (simp; done) | (simp; omega) | omega) _ | refine below_drewN' ?_ _ | refine Below.drew ?_))) hb2
  clear hb2
  go_wp2_with fail
  go_ret2
  exact ⟨rfl, by (repeat' (first | exact Below.refl _ _ | exact Hid.out (by assumption) | refine Below.alloc ?_ (by first | (simp; done) | (simp; omega) | omega) _ | refine Below.setCell ?_ (by first | (simp; done) | (simp; omega) | omega) _ | refine below_drewN' ?_ _ | refine Below.drew ?_))⟩
set_option maxRecDepth 100000 in
set_option maxHeartbeats 2000000 in
theorem first_r (p n L : Nat) (T V : ByteArray) (hD : Doc T V n L) (w : World) (h : Ix w p T n) : Calls Tryz.prog 191 #[.agg #[.pointer (some ⟨p, 0, none⟩), .int .i64 (-1)]] w fun e w' => e = .returned (.tuple #[.agg #[.pointer (some ⟨p, 0, none⟩), .int .i64 1], .bool true]) ∧ Below w.heap.size w w' := by
  have hn := hD.n3
  have hn1 := hD.n1
  have hL := hD.hL
  have hs := hD.hn
  have hv := hD.vs
  go_enter Tryz.func191, Tryz.ntmps191
  go_wp2_with fail
  refine (inner_r p n L T V hD _ (h.below (by (repeat' (first | exact Below.refl _ _ | exact Hid.out (by assumption) | refine Below.alloc ?_ (by first | (simp; done) | (simp; omega) | omega) _ | refine Below.setCell ?_ (by first | (simp; done) | (simp; omega) | omega) _ | refine below_drewN' ?_ _ | refine Below.drew ?_))))).mono ?_; rintro e w1 ⟨rfl, hb1⟩
  have s1 := hb1.size; try simp at s1
  try (have l1_0_0_0 : w.heap.size < w1.heap.size := by omega)
  try (have l1_0_0_1 : w.heap.size < w1.heap.size + 1 := by omega)
  try (have l1_0_0_2 : w.heap.size < w1.heap.size + 1 + 1 := by omega)
  try (have l1_0_1_0 : w.heap.size + 1 < w1.heap.size := by omega)
  try (have l1_0_1_1 : w.heap.size + 1 < w1.heap.size + 1 := by omega)
  try (have l1_0_1_2 : w.heap.size + 1 < w1.heap.size + 1 + 1 := by omega)
  try (have e1_0_0_0 := hb1.cell (p := ⟨w.heap.size, 0, none⟩) (by first | (simp; done) | (simp; omega) | omega); simp [go_sem, *] at e1_0_0_0)
  try (have f1_0_0_0 := hb1.frozen (p := ⟨w.heap.size, 0, none⟩) (by first | (simp; done) | (simp; omega) | omega); simp [go_sem, *] at f1_0_0_0)
  try (have e1_0_0_1 := hb1.cell (p := ⟨w.heap.size, 1, none⟩) (by first | (simp; done) | (simp; omega) | omega); simp [go_sem, *] at e1_0_0_1)
  try (have f1_0_0_1 := hb1.frozen (p := ⟨w.heap.size, 1, none⟩) (by first | (simp; done) | (simp; omega) | omega); simp [go_sem, *] at f1_0_0_1)
  try (have e1_0_1_0 := hb1.cell (p := ⟨w.heap.size + 1, 0, none⟩) (by first | (simp; done) | (simp; omega) | omega); simp [go_sem, *] at e1_0_1_0)
  try (have f1_0_1_0 := hb1.frozen (p := ⟨w.heap.size + 1, 0, none⟩) (by first | (simp; done) | (simp; omega) | omega); simp [go_sem, *] at f1_0_1_0)
  try (have e1_0_1_1 := hb1.cell (p := ⟨w.heap.size + 1, 1, none⟩) (by first | (simp; done) | (simp; omega) | omega); simp [go_sem, *] at e1_0_1_1)
  try (have f1_0_1_1 := hb1.frozen (p := ⟨w.heap.size + 1, 1, none⟩) (by first | (simp; done) | (simp; omega) | omega); simp [go_sem, *] at f1_0_1_1)
  have HB1 := bel_step (w := w) (by (repeat' (first | exact Below.refl _ _ | exact Hid.out (by assumption) | refine Below.alloc ?_ (by first | (simp; done) | (simp; omega) | omega) _ | refine Below.setCell ?_ (by first | (simp; done) | (simp; omega) | omega) _ | refine below_drewN' ?_ _ | refine Below.drew ?_))) hb1
  clear hb1
  go_wp2_with fail
  refine (kind_r p n L T V hD _ (h.below (by (repeat' (first | exact Below.refl _ _ | exact Hid.out (by assumption) | refine Below.alloc ?_ (by first | (simp; done) | (simp; omega) | omega) _ | refine Below.setCell ?_ (by first | (simp; done) | (simp; omega) | omega) _ | refine below_drewN' ?_ _ | refine Below.drew ?_))))).mono ?_; rintro e w2 ⟨rfl, hb2⟩
  have s2 := hb2.size; try simp at s2
  try (have l2_0_0_0 : w.heap.size < w2.heap.size := by omega)
  try (have l2_0_0_1 : w.heap.size < w2.heap.size + 1 := by omega)
  try (have l2_0_0_2 : w.heap.size < w2.heap.size + 1 + 1 := by omega)
  try (have l2_0_1_0 : w.heap.size + 1 < w2.heap.size := by omega)
  try (have l2_0_1_1 : w.heap.size + 1 < w2.heap.size + 1 := by omega)
  try (have l2_0_1_2 : w.heap.size + 1 < w2.heap.size + 1 + 1 := by omega)
  try (have l2_1_0_0 : w1.heap.size < w2.heap.size := by omega)
  try (have l2_1_0_1 : w1.heap.size < w2.heap.size + 1 := by omega)
  try (have l2_1_0_2 : w1.heap.size < w2.heap.size + 1 + 1 := by omega)
  try (have l2_1_1_0 : w1.heap.size + 1 < w2.heap.size := by omega)
  try (have l2_1_1_1 : w1.heap.size + 1 < w2.heap.size + 1 := by omega)
  try (have l2_1_1_2 : w1.heap.size + 1 < w2.heap.size + 1 + 1 := by omega)
  try (have e2_0_0_0 := hb2.cell (p := ⟨w.heap.size, 0, none⟩) (by first | (simp; done) | (simp; omega) | omega); simp [go_sem, *] at e2_0_0_0)
  try (have f2_0_0_0 := hb2.frozen (p := ⟨w.heap.size, 0, none⟩) (by first | (simp; done) | (simp; omega) | omega); simp [go_sem, *] at f2_0_0_0)
  try (have e2_0_0_1 := hb2.cell (p := ⟨w.heap.size, 1, none⟩) (by first | (simp; done) | (simp; omega) | omega); simp [go_sem, *] at e2_0_0_1)
  try (have f2_0_0_1 := hb2.frozen (p := ⟨w.heap.size, 1, none⟩) (by first | (simp; done) | (simp; omega) | omega); simp [go_sem, *] at f2_0_0_1)
  try (have e2_0_1_0 := hb2.cell (p := ⟨w.heap.size + 1, 0, none⟩) (by first | (simp; done) | (simp; omega) | omega); simp [go_sem, *] at e2_0_1_0)
  try (have f2_0_1_0 := hb2.frozen (p := ⟨w.heap.size + 1, 0, none⟩) (by first | (simp; done) | (simp; omega) | omega); simp [go_sem, *] at f2_0_1_0)
  try (have e2_0_1_1 := hb2.cell (p := ⟨w.heap.size + 1, 1, none⟩) (by first | (simp; done) | (simp; omega) | omega); simp [go_sem, *] at e2_0_1_1)
  try (have f2_0_1_1 := hb2.frozen (p := ⟨w.heap.size + 1, 1, none⟩) (by first | (simp; done) | (simp; omega) | omega); simp [go_sem, *] at f2_0_1_1)
  try (have e2_1_0_0 := hb2.cell (p := ⟨w1.heap.size, 0, none⟩) (by first | (simp; done) | (simp; omega) | omega); simp [go_sem, *] at e2_1_0_0)
  try (have f2_1_0_0 := hb2.frozen (p := ⟨w1.heap.size, 0, none⟩) (by first | (simp; done) | (simp; omega) | omega); simp [go_sem, *] at f2_1_0_0)
  try (have e2_1_0_1 := hb2.cell (p := ⟨w1.heap.size, 1, none⟩) (by first | (simp; done) | (simp; omega) | omega); simp [go_sem, *] at e2_1_0_1)
  try (have f2_1_0_1 := hb2.frozen (p := ⟨w1.heap.size, 1, none⟩) (by first | (simp; done) | (simp; omega) | omega); simp [go_sem, *] at f2_1_0_1)
  try (have e2_1_1_0 := hb2.cell (p := ⟨w1.heap.size + 1, 0, none⟩) (by first | (simp; done) | (simp; omega) | omega); simp [go_sem, *] at e2_1_1_0)
  try (have f2_1_1_0 := hb2.frozen (p := ⟨w1.heap.size + 1, 0, none⟩) (by first | (simp; done) | (simp; omega) | omega); simp [go_sem, *] at f2_1_1_0)
  try (have e2_1_1_1 := hb2.cell (p := ⟨w1.heap.size + 1, 1, none⟩) (by first | (simp; done) | (simp; omega) | omega); simp [go_sem, *] at e2_1_1_1)
  try (have f2_1_1_1 := hb2.frozen (p := ⟨w1.heap.size + 1, 1, none⟩) (by first | (simp; done) | (simp; omega) | omega); simp [go_sem, *] at f2_1_1_1)
  have HB2 := bel_step (w := w) (by (repeat' (first | exact Below.refl _ _ | exact Hid.out (by assumption) | refine Below.alloc ?_ (by first | (simp; done) | (simp; omega) | omega) _ | refine Below.setCell ?_ (by first | (simp; done) | (simp; omega) | omega) _ | refine below_drewN' ?_ _ | refine Below.drew ?_))) hb2
  clear hb2
  go_wp2_with fail
  try simp only [Exit.inBlock, Exit.then]
  refine bodyPost_ret (v := .tuple #[.agg #[.pointer (some ⟨p, 0, none⟩), .int .i64 1], .bool true]) (by simp [results, Tryz.results191, go_sem, *]) rfl ⟨rfl, by (repeat' (first | exact Below.refl _ _ | exact Hid.out (by assumption) | refine Below.alloc ?_ (by first | (simp; done) | (simp; omega) | omega) _ | refine Below.setCell ?_ (by first | (simp; done) | (simp; omega) | omega) _ | refine below_drewN' ?_ _ | refine Below.drew ?_))⟩
set_option maxRecDepth 100000 in
set_option maxHeartbeats 2000000 in
theorem first_1 (p n L : Nat) (T V : ByteArray) (hD : Doc T V n L) (c : Int) (k : Nat) (hV : 0 < V.size) (hc : ((V[0]'hV).toNat : Int) = c) (hk : Kd c k) (hk4 : k < 4) (w : World) (h : Ix w p T n) : Calls Tryz.prog 191 #[.agg #[.pointer (some ⟨p, 0, none⟩), .int .i64 1]] w fun e w' => e = .returned (.tuple #[.agg #[.pointer none, .int .i64 0], .bool false]) ∧ Below w.heap.size w w' := by
  have hn := hD.n3
  have hn1 := hD.n1
  have hL := hD.hL
  have hs := hD.hn
  have hv := hD.vs
  go_enter Tryz.func191, Tryz.ntmps191
  go_wp2_with fail
  refine (inner_1 p n L T V hD c k hV hc hk hk4 _ (h.below (by (repeat' (first | exact Below.refl _ _ | exact Hid.out (by assumption) | refine Below.alloc ?_ (by first | (simp; done) | (simp; omega) | omega) _ | refine Below.setCell ?_ (by first | (simp; done) | (simp; omega) | omega) _ | refine below_drewN' ?_ _ | refine Below.drew ?_))))).mono ?_; rintro e w1 ⟨rfl, hb1⟩
  have s1 := hb1.size; try simp at s1
  try (have l1_0_0_0 : w.heap.size < w1.heap.size := by omega)
  try (have l1_0_0_1 : w.heap.size < w1.heap.size + 1 := by omega)
  try (have l1_0_0_2 : w.heap.size < w1.heap.size + 1 + 1 := by omega)
  try (have l1_0_1_0 : w.heap.size + 1 < w1.heap.size := by omega)
  try (have l1_0_1_1 : w.heap.size + 1 < w1.heap.size + 1 := by omega)
  try (have l1_0_1_2 : w.heap.size + 1 < w1.heap.size + 1 + 1 := by omega)
  try (have e1_0_0_0 := hb1.cell (p := ⟨w.heap.size, 0, none⟩) (by first | (simp; done) | (simp; omega) | omega); simp [go_sem, *] at e1_0_0_0)
  try (have f1_0_0_0 := hb1.frozen (p := ⟨w.heap.size, 0, none⟩) (by first | (simp; done) | (simp; omega) | omega); simp [go_sem, *] at f1_0_0_0)
  try (have e1_0_0_1 := hb1.cell (p := ⟨w.heap.size, 1, none⟩) (by first | (simp; done) | (simp; omega) | omega); simp [go_sem, *] at e1_0_0_1)
  try (have f1_0_0_1 := hb1.frozen (p := ⟨w.heap.size, 1, none⟩) (by first | (simp; done) | (simp; omega) | omega); simp [go_sem, *] at f1_0_0_1)
  try (have e1_0_1_0 := hb1.cell (p := ⟨w.heap.size + 1, 0, none⟩) (by first | (simp; done) | (simp; omega) | omega); simp [go_sem, *] at e1_0_1_0)
  try (have f1_0_1_0 := hb1.frozen (p := ⟨w.heap.size + 1, 0, none⟩) (by first | (simp; done) | (simp; omega) | omega); simp [go_sem, *] at f1_0_1_0)
  try (have e1_0_1_1 := hb1.cell (p := ⟨w.heap.size + 1, 1, none⟩) (by first | (simp; done) | (simp; omega) | omega); simp [go_sem, *] at e1_0_1_1)
  try (have f1_0_1_1 := hb1.frozen (p := ⟨w.heap.size + 1, 1, none⟩) (by first | (simp; done) | (simp; omega) | omega); simp [go_sem, *] at f1_0_1_1)
  have HB1 := bel_step (w := w) (by (repeat' (first | exact Below.refl _ _ | exact Hid.out (by assumption) | refine Below.alloc ?_ (by first | (simp; done) | (simp; omega) | omega) _ | refine Below.setCell ?_ (by first | (simp; done) | (simp; omega) | omega) _ | refine below_drewN' ?_ _ | refine Below.drew ?_))) hb1
  clear hb1
  go_wp2_with fail
  try simp only [Exit.inBlock, Exit.then]
  refine bodyPost_ret (v := .tuple #[.agg #[.pointer none, .int .i64 0], .bool false]) (by simp [results, Tryz.results191, go_sem, *]) rfl ⟨rfl, by (repeat' (first | exact Below.refl _ _ | exact Hid.out (by assumption) | refine Below.alloc ?_ (by first | (simp; done) | (simp; omega) | omega) _ | refine Below.setCell ?_ (by first | (simp; done) | (simp; omega) | omega) _ | refine below_drewN' ?_ _ | refine Below.drew ?_))⟩
set_option maxRecDepth 100000 in
set_option maxHeartbeats 2000000 in
theorem parent_r (p n L : Nat) (T V : ByteArray) (hD : Doc T V n L) (w : World) (h : Ix w p T n) : Calls Tryz.prog 187 #[.agg #[.pointer (some ⟨p, 0, none⟩), .int .i64 (-1)]] w fun e w' => e = .returned (.tuple #[.agg #[.pointer none, .int .i64 0], .bool false]) ∧ Below w.heap.size w w' := by
  have hn := hD.n3
  have hn1 := hD.n1
  have hL := hD.hL
  have hs := hD.hn
  have hv := hD.vs
  go_enter Tryz.func187, Tryz.ntmps187
  go_wp2_with fail
  refine (up_r p n L T V hD _ (h.below (by (repeat' (first | exact Below.refl _ _ | exact Hid.out (by assumption) | refine Below.alloc ?_ (by first | (simp; done) | (simp; omega) | omega) _ | refine Below.setCell ?_ (by first | (simp; done) | (simp; omega) | omega) _ | refine below_drewN' ?_ _ | refine Below.drew ?_))))).mono ?_; rintro e w1 ⟨rfl, hb1⟩
  have s1 := hb1.size; try simp at s1
  try (have l1_0_0_0 : w.heap.size < w1.heap.size := by omega)
  try (have l1_0_0_1 : w.heap.size < w1.heap.size + 1 := by omega)
  try (have l1_0_0_2 : w.heap.size < w1.heap.size + 1 + 1 := by omega)
  try (have l1_0_1_0 : w.heap.size + 1 < w1.heap.size := by omega)
  try (have l1_0_1_1 : w.heap.size + 1 < w1.heap.size + 1 := by omega)
  try (have l1_0_1_2 : w.heap.size + 1 < w1.heap.size + 1 + 1 := by omega)
  try (have e1_0_0_0 := hb1.cell (p := ⟨w.heap.size, 0, none⟩) (by first | (simp; done) | (simp; omega) | omega); simp [go_sem, *] at e1_0_0_0)
  try (have f1_0_0_0 := hb1.frozen (p := ⟨w.heap.size, 0, none⟩) (by first | (simp; done) | (simp; omega) | omega); simp [go_sem, *] at f1_0_0_0)
  try (have e1_0_0_1 := hb1.cell (p := ⟨w.heap.size, 1, none⟩) (by first | (simp; done) | (simp; omega) | omega); simp [go_sem, *] at e1_0_0_1)
  try (have f1_0_0_1 := hb1.frozen (p := ⟨w.heap.size, 1, none⟩) (by first | (simp; done) | (simp; omega) | omega); simp [go_sem, *] at f1_0_0_1)
  try (have e1_0_1_0 := hb1.cell (p := ⟨w.heap.size + 1, 0, none⟩) (by first | (simp; done) | (simp; omega) | omega); simp [go_sem, *] at e1_0_1_0)
  try (have f1_0_1_0 := hb1.frozen (p := ⟨w.heap.size + 1, 0, none⟩) (by first | (simp; done) | (simp; omega) | omega); simp [go_sem, *] at f1_0_1_0)
  try (have e1_0_1_1 := hb1.cell (p := ⟨w.heap.size + 1, 1, none⟩) (by first | (simp; done) | (simp; omega) | omega); simp [go_sem, *] at e1_0_1_1)
  try (have f1_0_1_1 := hb1.frozen (p := ⟨w.heap.size + 1, 1, none⟩) (by first | (simp; done) | (simp; omega) | omega); simp [go_sem, *] at f1_0_1_1)
  have HB1 := bel_step (w := w) (by (repeat' (first | exact Below.refl _ _ | exact Hid.out (by assumption) | refine Below.alloc ?_ (by first | (simp; done) | (simp; omega) | omega) _ | refine Below.setCell ?_ (by first | (simp; done) | (simp; omega) | omega) _ | refine below_drewN' ?_ _ | refine Below.drew ?_))) hb1
  clear hb1
  go_wp2_with fail
  try simp only [Exit.inBlock, Exit.then]
  refine bodyPost_ret (v := .tuple #[.agg #[.pointer none, .int .i64 0], .bool false]) (by simp [results, Tryz.results187, go_sem, *]) rfl ⟨rfl, by (repeat' (first | exact Below.refl _ _ | exact Hid.out (by assumption) | refine Below.alloc ?_ (by first | (simp; done) | (simp; omega) | omega) _ | refine Below.setCell ?_ (by first | (simp; done) | (simp; omega) | omega) _ | refine below_drewN' ?_ _ | refine Below.drew ?_))⟩
set_option maxRecDepth 100000 in
set_option maxHeartbeats 2000000 in
theorem parent_1 (p n L : Nat) (T V : ByteArray) (hD : Doc T V n L) (w : World) (h : Ix w p T n) : Calls Tryz.prog 187 #[.agg #[.pointer (some ⟨p, 0, none⟩), .int .i64 1]] w fun e w' => e = .returned (.tuple #[.agg #[.pointer (some ⟨p, 0, none⟩), .int .i64 (-1)], .bool true]) ∧ Below w.heap.size w w' := by
  have hn := hD.n3
  have hn1 := hD.n1
  have hL := hD.hL
  have hs := hD.hn
  have hv := hD.vs
  go_enter Tryz.func187, Tryz.ntmps187
  go_wp2_with fail
  refine (up_1 p n L T V hD _ (h.below (by (repeat' (first | exact Below.refl _ _ | exact Hid.out (by assumption) | refine Below.alloc ?_ (by first | (simp; done) | (simp; omega) | omega) _ | refine Below.setCell ?_ (by first | (simp; done) | (simp; omega) | omega) _ | refine below_drewN' ?_ _ | refine Below.drew ?_))))).mono ?_; rintro e w1 ⟨rfl, hb1⟩
  have s1 := hb1.size; try simp at s1
  try (have l1_0_0_0 : w.heap.size < w1.heap.size := by omega)
  try (have l1_0_0_1 : w.heap.size < w1.heap.size + 1 := by omega)
  try (have l1_0_0_2 : w.heap.size < w1.heap.size + 1 + 1 := by omega)
  try (have l1_0_1_0 : w.heap.size + 1 < w1.heap.size := by omega)
  try (have l1_0_1_1 : w.heap.size + 1 < w1.heap.size + 1 := by omega)
  try (have l1_0_1_2 : w.heap.size + 1 < w1.heap.size + 1 + 1 := by omega)
  try (have e1_0_0_0 := hb1.cell (p := ⟨w.heap.size, 0, none⟩) (by first | (simp; done) | (simp; omega) | omega); simp [go_sem, *] at e1_0_0_0)
  try (have f1_0_0_0 := hb1.frozen (p := ⟨w.heap.size, 0, none⟩) (by first | (simp; done) | (simp; omega) | omega); simp [go_sem, *] at f1_0_0_0)
  try (have e1_0_0_1 := hb1.cell (p := ⟨w.heap.size, 1, none⟩) (by first | (simp; done) | (simp; omega) | omega); simp [go_sem, *] at e1_0_0_1)
  try (have f1_0_0_1 := hb1.frozen (p := ⟨w.heap.size, 1, none⟩) (by first | (simp; done) | (simp; omega) | omega); simp [go_sem, *] at f1_0_0_1)
  try (have e1_0_1_0 := hb1.cell (p := ⟨w.heap.size + 1, 0, none⟩) (by first | (simp; done) | (simp; omega) | omega); simp [go_sem, *] at e1_0_1_0)
  try (have f1_0_1_0 := hb1.frozen (p := ⟨w.heap.size + 1, 0, none⟩) (by first | (simp; done) | (simp; omega) | omega); simp [go_sem, *] at f1_0_1_0)
  try (have e1_0_1_1 := hb1.cell (p := ⟨w.heap.size + 1, 1, none⟩) (by first | (simp; done) | (simp; omega) | omega); simp [go_sem, *] at e1_0_1_1)
  try (have f1_0_1_1 := hb1.frozen (p := ⟨w.heap.size + 1, 1, none⟩) (by first | (simp; done) | (simp; omega) | omega); simp [go_sem, *] at f1_0_1_1)
  have HB1 := bel_step (w := w) (by (repeat' (first | exact Below.refl _ _ | exact Hid.out (by assumption) | refine Below.alloc ?_ (by first | (simp; done) | (simp; omega) | omega) _ | refine Below.setCell ?_ (by first | (simp; done) | (simp; omega) | omega) _ | refine below_drewN' ?_ _ | refine Below.drew ?_))) hb1
  clear hb1
  go_wp2_with fail
  try simp only [Exit.inBlock, Exit.then]
  refine bodyPost_ret (v := .tuple #[.agg #[.pointer (some ⟨p, 0, none⟩), .int .i64 (-1)], .bool true]) (by simp [results, Tryz.results187, go_sem, *]) rfl ⟨rfl, by (repeat' (first | exact Below.refl _ _ | exact Hid.out (by assumption) | refine Below.alloc ?_ (by first | (simp; done) | (simp; omega) | omega) _ | refine Below.setCell ?_ (by first | (simp; done) | (simp; omega) | omega) _ | refine below_drewN' ?_ _ | refine Below.drew ?_))⟩
set_option maxRecDepth 100000 in
set_option maxHeartbeats 2000000 in
theorem place_1 (p n L : Nat) (T V : ByteArray) (hD : Doc T V n L) (w : World) (h : Ix w p T n) : Calls Tryz.prog 250 #[.agg #[.pointer (some ⟨p, 0, none⟩), .int .i64 1]] w fun e w' => e = .returned (.int .i64 0) ∧ Below w.heap.size w w' := by
  have hn := hD.n3
  have hn1 := hD.n1
  have hL := hD.hL
  have hs := hD.hn
  have hv := hD.vs
  go_enter Tryz.func250, Tryz.ntmps250
  go_wp2_with fail
  refine (up_1 p n L T V hD _ (h.below (by (repeat' (first | exact Below.refl _ _ | exact Hid.out (by assumption) | refine Below.alloc ?_ (by first | (simp; done) | (simp; omega) | omega) _ | refine Below.setCell ?_ (by first | (simp; done) | (simp; omega) | omega) _ | refine below_drewN' ?_ _ | refine Below.drew ?_))))).mono ?_; rintro e w1 ⟨rfl, hb1⟩
  have s1 := hb1.size; try simp at s1
  try (have l1_0_0_0 : w.heap.size < w1.heap.size := by omega)
  try (have l1_0_0_1 : w.heap.size < w1.heap.size + 1 := by omega)
  try (have l1_0_0_2 : w.heap.size < w1.heap.size + 1 + 1 := by omega)
  try (have e1_0_0_0 := hb1.cell (p := ⟨w.heap.size, 0, none⟩) (by first | (simp; done) | (simp; omega) | omega); simp [go_sem, *] at e1_0_0_0)
  try (have f1_0_0_0 := hb1.frozen (p := ⟨w.heap.size, 0, none⟩) (by first | (simp; done) | (simp; omega) | omega); simp [go_sem, *] at f1_0_0_0)
  try (have e1_0_0_1 := hb1.cell (p := ⟨w.heap.size, 1, none⟩) (by first | (simp; done) | (simp; omega) | omega); simp [go_sem, *] at e1_0_0_1)
  try (have f1_0_0_1 := hb1.frozen (p := ⟨w.heap.size, 1, none⟩) (by first | (simp; done) | (simp; omega) | omega); simp [go_sem, *] at f1_0_0_1)
  have HB1 := bel_step (w := w) (by (repeat' (first | exact Below.refl _ _ | exact Hid.out (by assumption) | refine Below.alloc ?_ (by first | (simp; done) | (simp; omega) | omega) _ | refine Below.setCell ?_ (by first | (simp; done) | (simp; omega) | omega) _ | refine below_drewN' ?_ _ | refine Below.drew ?_))) hb1
  clear hb1
  go_wp2_with (first | (refine wp_loop_unr 2 ?_; refine Unr.step ?_; intro U hU) | (refine Unr.step ?_; intro U hU))
  refine (member_0 p n L T V hD 1 _ (h.below (by (repeat' (first | exact Below.refl _ _ | exact Hid.out (by assumption) | refine Below.alloc ?_ (by first | (simp; done) | (simp; omega) | omega) _ | refine Below.setCell ?_ (by first | (simp; done) | (simp; omega) | omega) _ | refine below_drewN' ?_ _ | refine Below.drew ?_))))).mono ?_; rintro e w2 ⟨rfl, hb2⟩
  have s2 := hb2.size; try simp at s2
  try (have l2_0_0_0 : w.heap.size < w2.heap.size := by omega)
  try (have l2_0_0_1 : w.heap.size < w2.heap.size + 1 := by omega)
  try (have l2_0_0_2 : w.heap.size < w2.heap.size + 1 + 1 := by omega)
  try (have e2_0_0_0 := hb2.cell (p := ⟨w.heap.size, 0, none⟩) (by first | (simp; done) | (simp; omega) | omega); simp [go_sem, *] at e2_0_0_0)
  try (have f2_0_0_0 := hb2.frozen (p := ⟨w.heap.size, 0, none⟩) (by first | (simp; done) | (simp; omega) | omega); simp [go_sem, *] at f2_0_0_0)
  try (have e2_0_0_1 := hb2.cell (p := ⟨w.heap.size, 1, none⟩) (by first | (simp; done) | (simp; omega) | omega); simp [go_sem, *] at e2_0_0_1)
  try (have f2_0_0_1 := hb2.frozen (p := ⟨w.heap.size, 1, none⟩) (by first | (simp; done) | (simp; omega) | omega); simp [go_sem, *] at f2_0_0_1)
  have HB2 := bel_step (w := w) (by (repeat' (first | exact Below.refl _ _ | exact Hid.out (by assumption) | refine Below.alloc ?_ (by first | (simp; done) | (simp; omega) | omega) _ | refine Below.setCell ?_ (by first | (simp; done) | (simp; omega) | omega) _ | refine below_drewN' ?_ _ | refine Below.drew ?_))) hb2
  clear hb2
  go_wp2_with fail
  go_ret
  exact ⟨rfl, by (repeat' (first | exact Below.refl _ _ | exact Hid.out (by assumption) | refine Below.alloc ?_ (by first | (simp; done) | (simp; omega) | omega) _ | refine Below.setCell ?_ (by first | (simp; done) | (simp; omega) | omega) _ | refine below_drewN' ?_ _ | refine Below.drew ?_))⟩
end Go.Proofs.YtjelneeeijjpiaaGreatDoor
end
