/- TopText: walks and plain laws, part 24: lemmas on what the functions that the law comes to compute. -/
import Derived.Test.YtjelneeeijjpiaaGreatDoorG23
import Derived.Test.YtjelneeeijjpiaaGreatDoorG18
set_option linter.unusedVariables false
set_option linter.unusedSimpArgs false
section
namespace Go.Proofs.YtjelneeeijjpiaaGreatDoor
open Go.RowKit
theorem gr_bel {W w1 : World} {m B : Nat} (h : W.grownBy w1 (some m)) (hB : B ≤ W.heap.size) (hm : B ≤ m) : Below B W w1 :=
  ⟨h.os, h.tape, h.output, by have := h.size; omega, fun k hk => h.block k (by omega) (by simp; omega)⟩
structure Cd (gp gs gl : Nat) (w : World) : Prop where
  p : CT gp w
  s : CG gs w
  l : CL gl w
def MakeP (w : World) (e : Ending) (w' : World) : Prop := ∃ gp cp gs cs gl cl, e = .returned (.agg #[.slice (some ⟨gp, 0, none⟩) 1 cp, .slice (some ⟨gs, 0, none⟩) 1 cs, .slice (some ⟨gl, 0, none⟩) 1 cl, .slice none 0 0]) ∧ Cd gp gs gl w' ∧ (w.heap.size ≤ gp ∧ w.heap.size ≤ gs ∧ w.heap.size ≤ gl ∧ 1 ≤ cs ∧ 1 ≤ cl) ∧ Below w.heap.size w w'
set_option maxRecDepth 100000 in
set_option maxHeartbeats 2000000 in
theorem cmake_0 (q c s : Nat) (w : World) (hP : Pa w q s) : Calls Tryz.prog 139 #[.agg #[.bool true, .slice (some ⟨q, 0, none⟩) 1 (c : Nat)]] w fun e w' => MakeP w e w' := by
  go_enter Tryz.func139, Tryz.ntmps139
  go_wp2_with (first | (refine wp_loop_unr 3 ?_; refine Unr.step ?_; intro U hU) | (refine Unr.step ?_; intro U hU))
  refine (cpath_0 (w.heap.size + 1 + 1 + 1) (w.heap.size + 1 + 1) q c s _ ⟨by simp, by simp [go_sem], by simp [go_sem], by simp [go_sem], by simp [go_sem], by simp [go_sem], by simp [go_sem], by simp [go_sem], by simp [go_sem]⟩ (hP.below (by (repeat' (first | refine Below.setCell ?_ (by first | (simp; done) | (simp; omega) | omega | (simp [World.setCell]; omega)) _ | refine Below.alloc ?_ (by first | (simp; done) | (simp; omega) | omega | (simp [World.setCell]; omega)) _ | refine below_drewN' ?_ _ | refine Below.drew ?_ | exact Hid.out (by assumption) | exact Below.refl _ _))))).mono ?_; rintro e w1 ⟨rfl, gp, cp, gs, cs, gl, cl, HC, HT, HG, HL, h1, h2, h3, k1, k2⟩
  have hb := HC.gr.block (w.heap.size + 1) (by simp) (by simp)
  have r0 := World.cell?_of_block (a := ⟨w.heap.size + 1, 0, none⟩) hb; simp [go_sem] at r0
  have rf0 := World.frozen?_of_block (a := ⟨w.heap.size + 1, 0, none⟩) hb; simp [go_sem] at rf0
  have r1 := World.cell?_of_block (a := ⟨w.heap.size + 1, 1, none⟩) hb; simp [go_sem] at r1
  have rf1 := World.frozen?_of_block (a := ⟨w.heap.size + 1, 1, none⟩) hb; simp [go_sem] at rf1
  have r2 := World.cell?_of_block (a := ⟨w.heap.size + 1, 2, none⟩) hb; simp [go_sem] at r2
  have rf2 := World.frozen?_of_block (a := ⟨w.heap.size + 1, 2, none⟩) hb; simp [go_sem] at rf2
  have r3 := World.cell?_of_block (a := ⟨w.heap.size + 1, 3, none⟩) hb; simp [go_sem] at r3
  have rf3 := World.frozen?_of_block (a := ⟨w.heap.size + 1, 3, none⟩) hb; simp [go_sem] at rf3
  have m0 := HC.m0; have m1 := HC.m1; have m2 := HC.m2; have m3 := HC.m3; have m4 := HC.m4; have wl := HC.wl
  have HB : Hid (Below w.heap.size w w1) := Lib.hid (Below.trans (by (repeat' (first | refine Below.setCell ?_ (by first | (simp; done) | (simp; omega) | omega | (simp [World.setCell]; omega)) _ | refine Below.alloc ?_ (by first | (simp; done) | (simp; omega) | omega | (simp [World.setCell]; omega)) _ | refine below_drewN' ?_ _ | refine Below.drew ?_ | exact Hid.out (by assumption) | exact Below.refl _ _))) (gr_bel HC.gr (by simp; omega) (by omega)))
  simp at wl h1 h2 h3
  have l0 : w.heap.size + 1 < w1.heap.size := by omega
  have l1 : w.heap.size + 1 + 1 + 1 < w1.heap.size := by omega
  go_wp2_with (first | (refine wp_loop_unr 3 ?_; refine Unr.step ?_; intro U hU) | (refine Unr.step ?_; intro U hU))
  try simp only [Exit.inBlock, Exit.then]
  refine bodyPost_ret (v := .agg #[.slice (some ⟨gp, 0, none⟩) 1 cp, .slice (some ⟨gs, 0, none⟩) 1 cs, .slice (some ⟨gl, 0, none⟩) 1 cl, .slice none 0 0]) (by simp [results, Tryz.results139, go_sem, r0, r1, r2, r3]) rfl ⟨gp, cp, gs, cs, gl, cl, rfl, ⟨by repeat' (first | refine CT.set ?_ (by first | (simp; done) | (simp; omega) | omega | (simp [World.setCell]; omega)) _ | exact HT), by repeat' (first | refine CG.set ?_ (by first | (simp; done) | (simp; omega) | omega | (simp [World.setCell]; omega)) _ | exact HG), by repeat' (first | refine CL.set ?_ (by first | (simp; done) | (simp; omega) | omega | (simp [World.setCell]; omega)) _ | exact HL)⟩, ⟨by omega, by omega, by omega, k1, k2⟩, by (repeat' (first | refine Below.setCell ?_ (by first | (simp; done) | (simp; omega) | omega | (simp [World.setCell]; omega)) _ | refine Below.alloc ?_ (by first | (simp; done) | (simp; omega) | omega | (simp [World.setCell]; omega)) _ | refine below_drewN' ?_ _ | refine Below.drew ?_ | exact Hid.out (by assumption) | exact Below.refl _ _))⟩
end Go.Proofs.YtjelneeeijjpiaaGreatDoor
end
section
namespace Go.Proofs.YtjelneeeijjpiaaGreatDoor
open Go.RowKit
theorem Cd.below {w w' : World} {gp gs gl : Nat} (h : Cd gp gs gl w) (hb : Below w.heap.size w w') : Cd gp gs gl w' := ⟨h.p.below hb, h.s.below hb, h.l.below hb⟩
theorem Cd.set {w : World} {gp gs gl : Nat} (h : Cd gp gs gl w) {a : Addr} (h1 : a.block ≠ gp) (h2 : a.block ≠ gs) (h3 : a.block ≠ gl) (v : Value) : Cd gp gs gl (w.setCell a v) := ⟨h.p.set h1 v, h.s.set h2 v, h.l.set h3 v⟩
def QueryP (w : World) (e : Ending) (w' : World) : Prop := ∃ gp cp gs cs gl cl, e = .returned (.tuple #[.agg #[.slice (some ⟨gp, 0, none⟩) 1 cp, .slice (some ⟨gs, 0, none⟩) 1 cs, .slice (some ⟨gl, 0, none⟩) 1 cl, .slice none 0 0], .agg #[.int .i64 0, .int .i64 0]]) ∧ Cd gp gs gl w' ∧ (1 ≤ cs ∧ 1 ≤ cl) ∧ Below w.heap.size w w'
set_option maxRecDepth 100000 in
set_option maxHeartbeats 2000000 in
theorem query_any  (w : World) : Calls Tryz.prog 96 #[.string ⟨#[36, 91, 48, 93]⟩] w fun e w' => QueryP w e w' := by
  go_enter Tryz.func96, Tryz.ntmps96
  go_wp2_with fail
  refine (parse_any _).mono ?_; rintro e w1 ⟨q, c, s, rfl, hq, hs, hP, hb1⟩
  have s1 := hb1.size; try simp at s1
  try (have l1_0_0_0 : w.heap.size < w1.heap.size := by omega)
  try (have l1_0_0_1 : w.heap.size < w1.heap.size + 1 := by omega)
  try (have l1_0_0_2 : w.heap.size < w1.heap.size + 1 + 1 := by omega)
  try (have l1_0_1_0 : w.heap.size + 1 < w1.heap.size := by omega)
  try (have l1_0_1_1 : w.heap.size + 1 < w1.heap.size + 1 := by omega)
  try (have l1_0_1_2 : w.heap.size + 1 < w1.heap.size + 1 + 1 := by omega)
  try (have e1_0_0_0 := hb1.cell (p := ⟨w.heap.size, 0, none⟩) (by first | (simp; done) | (simp; omega) | omega | (simp [World.setCell]; omega)); simp [go_sem, *] at e1_0_0_0)
  try (have f1_0_0_0 := hb1.frozen (p := ⟨w.heap.size, 0, none⟩) (by first | (simp; done) | (simp; omega) | omega | (simp [World.setCell]; omega)); simp [go_sem, *] at f1_0_0_0)
  try (have e1_0_0_1 := hb1.cell (p := ⟨w.heap.size, 1, none⟩) (by first | (simp; done) | (simp; omega) | omega | (simp [World.setCell]; omega)); simp [go_sem, *] at e1_0_0_1)
  try (have f1_0_0_1 := hb1.frozen (p := ⟨w.heap.size, 1, none⟩) (by first | (simp; done) | (simp; omega) | omega | (simp [World.setCell]; omega)); simp [go_sem, *] at f1_0_0_1)
  try (have e1_0_0_2 := hb1.cell (p := ⟨w.heap.size, 2, none⟩) (by first | (simp; done) | (simp; omega) | omega | (simp [World.setCell]; omega)); simp [go_sem, *] at e1_0_0_2)
  try (have f1_0_0_2 := hb1.frozen (p := ⟨w.heap.size, 2, none⟩) (by first | (simp; done) | (simp; omega) | omega | (simp [World.setCell]; omega)); simp [go_sem, *] at f1_0_0_2)
  try (have e1_0_0_3 := hb1.cell (p := ⟨w.heap.size, 3, none⟩) (by first | (simp; done) | (simp; omega) | omega | (simp [World.setCell]; omega)); simp [go_sem, *] at e1_0_0_3)
  try (have f1_0_0_3 := hb1.frozen (p := ⟨w.heap.size, 3, none⟩) (by first | (simp; done) | (simp; omega) | omega | (simp [World.setCell]; omega)); simp [go_sem, *] at f1_0_0_3)
  try (have e1_0_1_0 := hb1.cell (p := ⟨w.heap.size + 1, 0, none⟩) (by first | (simp; done) | (simp; omega) | omega | (simp [World.setCell]; omega)); simp [go_sem, *] at e1_0_1_0)
  try (have f1_0_1_0 := hb1.frozen (p := ⟨w.heap.size + 1, 0, none⟩) (by first | (simp; done) | (simp; omega) | omega | (simp [World.setCell]; omega)); simp [go_sem, *] at f1_0_1_0)
  try (have e1_0_1_1 := hb1.cell (p := ⟨w.heap.size + 1, 1, none⟩) (by first | (simp; done) | (simp; omega) | omega | (simp [World.setCell]; omega)); simp [go_sem, *] at e1_0_1_1)
  try (have f1_0_1_1 := hb1.frozen (p := ⟨w.heap.size + 1, 1, none⟩) (by first | (simp; done) | (simp; omega) | omega | (simp [World.setCell]; omega)); simp [go_sem, *] at f1_0_1_1)
  have HB1 := bel_step (w := w) (by (repeat' (first | refine Below.setCell ?_ (by first | (simp; done) | (simp; omega) | omega | (simp [World.setCell]; omega)) _ | refine Below.alloc ?_ (by first | (simp; done) | (simp; omega) | omega | (simp [World.setCell]; omega)) _ | refine below_drewN' ?_ _ | refine Below.drew ?_ | exact Hid.out (by assumption) | exact Below.refl _ _))) hb1
  clear hb1
  go_wp2_with fail
  refine (cmake_0 q c s _ (hP.below (by (repeat' (first | refine Below.setCell ?_ (by first | (simp; done) | (simp; omega) | omega | (simp [World.setCell]; omega)) _ | refine Below.alloc ?_ (by first | (simp; done) | (simp; omega) | omega | (simp [World.setCell]; omega)) _ | refine below_drewN' ?_ _ | refine Below.drew ?_ | exact Hid.out (by assumption) | exact Below.refl _ _))))).mono ?_; rintro e w2 ⟨gp, cp, gs, cs, gl, cl, rfl, hC, ⟨hgp, hgs, hgl, k1, k2⟩, hb2⟩
  have s2 := hb2.size; try simp at s2
  simp at hgp hgs hgl
  try (have l2_0_0_0 : w.heap.size < w2.heap.size := by omega)
  try (have l2_0_0_1 : w.heap.size < w2.heap.size + 1 := by omega)
  try (have l2_0_0_2 : w.heap.size < w2.heap.size + 1 + 1 := by omega)
  try (have l2_0_1_0 : w.heap.size + 1 < w2.heap.size := by omega)
  try (have l2_0_1_1 : w.heap.size + 1 < w2.heap.size + 1 := by omega)
  try (have l2_0_1_2 : w.heap.size + 1 < w2.heap.size + 1 + 1 := by omega)
  try (have e2_0_0_0 := hb2.cell (p := ⟨w.heap.size, 0, none⟩) (by first | (simp; done) | (simp; omega) | omega | (simp [World.setCell]; omega)); simp [go_sem, *] at e2_0_0_0)
  try (have f2_0_0_0 := hb2.frozen (p := ⟨w.heap.size, 0, none⟩) (by first | (simp; done) | (simp; omega) | omega | (simp [World.setCell]; omega)); simp [go_sem, *] at f2_0_0_0)
  try (have e2_0_0_1 := hb2.cell (p := ⟨w.heap.size, 1, none⟩) (by first | (simp; done) | (simp; omega) | omega | (simp [World.setCell]; omega)); simp [go_sem, *] at e2_0_0_1)
  try (have f2_0_0_1 := hb2.frozen (p := ⟨w.heap.size, 1, none⟩) (by first | (simp; done) | (simp; omega) | omega | (simp [World.setCell]; omega)); simp [go_sem, *] at f2_0_0_1)
  try (have e2_0_0_2 := hb2.cell (p := ⟨w.heap.size, 2, none⟩) (by first | (simp; done) | (simp; omega) | omega | (simp [World.setCell]; omega)); simp [go_sem, *] at e2_0_0_2)
  try (have f2_0_0_2 := hb2.frozen (p := ⟨w.heap.size, 2, none⟩) (by first | (simp; done) | (simp; omega) | omega | (simp [World.setCell]; omega)); simp [go_sem, *] at f2_0_0_2)
  try (have e2_0_0_3 := hb2.cell (p := ⟨w.heap.size, 3, none⟩) (by first | (simp; done) | (simp; omega) | omega | (simp [World.setCell]; omega)); simp [go_sem, *] at e2_0_0_3)
  try (have f2_0_0_3 := hb2.frozen (p := ⟨w.heap.size, 3, none⟩) (by first | (simp; done) | (simp; omega) | omega | (simp [World.setCell]; omega)); simp [go_sem, *] at f2_0_0_3)
  try (have e2_0_1_0 := hb2.cell (p := ⟨w.heap.size + 1, 0, none⟩) (by first | (simp; done) | (simp; omega) | omega | (simp [World.setCell]; omega)); simp [go_sem, *] at e2_0_1_0)
  try (have f2_0_1_0 := hb2.frozen (p := ⟨w.heap.size + 1, 0, none⟩) (by first | (simp; done) | (simp; omega) | omega | (simp [World.setCell]; omega)); simp [go_sem, *] at f2_0_1_0)
  try (have e2_0_1_1 := hb2.cell (p := ⟨w.heap.size + 1, 1, none⟩) (by first | (simp; done) | (simp; omega) | omega | (simp [World.setCell]; omega)); simp [go_sem, *] at e2_0_1_1)
  try (have f2_0_1_1 := hb2.frozen (p := ⟨w.heap.size + 1, 1, none⟩) (by first | (simp; done) | (simp; omega) | omega | (simp [World.setCell]; omega)); simp [go_sem, *] at f2_0_1_1)
  have HB2 := bel_step (w := w) (by (repeat' (first | refine Below.setCell ?_ (by first | (simp; done) | (simp; omega) | omega | (simp [World.setCell]; omega)) _ | refine Below.alloc ?_ (by first | (simp; done) | (simp; omega) | omega | (simp [World.setCell]; omega)) _ | refine below_drewN' ?_ _ | refine Below.drew ?_ | exact Hid.out (by assumption) | exact Below.refl _ _))) hb2
  clear hb2
  go_wp2_with fail
  try simp only [Exit.inBlock, Exit.then]
  refine bodyPost_ret (v := .tuple #[.agg #[.slice (some ⟨gp, 0, none⟩) 1 cp, .slice (some ⟨gs, 0, none⟩) 1 cs, .slice (some ⟨gl, 0, none⟩) 1 cl, .slice none 0 0], .agg #[.int .i64 0, .int .i64 0]]) (by simp [results, Tryz.results96, go_sem, *]) rfl ⟨gp, cp, gs, cs, gl, cl, rfl, ?_, ⟨k1, k2⟩, by (repeat' (first | refine Below.setCell ?_ (by first | (simp; done) | (simp; omega) | omega | (simp [World.setCell]; omega)) _ | refine Below.alloc ?_ (by first | (simp; done) | (simp; omega) | omega | (simp [World.setCell]; omega)) _ | refine below_drewN' ?_ _ | refine Below.drew ?_ | exact Hid.out (by assumption) | exact Below.refl _ _))⟩
  repeat' (first | refine Cd.set ?_ (by first | (simp; done) | (simp; omega) | omega | (simp [World.setCell]; omega)) (by first | (simp; done) | (simp; omega) | omega | (simp [World.setCell]; omega)) (by first | (simp; done) | (simp; omega) | omega | (simp [World.setCell]; omega)) _ | refine Cd.below ?_ ((Below.refl _ _).alloc (Nat.le_refl _) _) | exact hC)
end Go.Proofs.YtjelneeeijjpiaaGreatDoor
end
section
namespace Go.Proofs.YtjelneeeijjpiaaGreatDoor
open Go.RowKit
structure Mc (gp cp gs cs gl cl p : Nat) (k : Int) (g : Nat) (W : World) : Prop where
  lt : g < W.heap.size
  c0 : W.cell? ⟨g, 0, none⟩ = some (.slice (some ⟨gp, 0, none⟩) 1 cp)
  c1 : W.cell? ⟨g, 1, none⟩ = some (.slice (some ⟨gs, 0, none⟩) 1 cs)
  c2 : W.cell? ⟨g, 2, none⟩ = some (.slice (some ⟨gl, 0, none⟩) 1 cl)
  c3 : W.cell? ⟨g, 3, none⟩ = some (.slice none 0 0)
  c4 : W.cell? ⟨g, 4, none⟩ = some (.pointer (some ⟨p, 0, none⟩))
  c5 : W.cell? ⟨g, 5, none⟩ = some (.int .i64 (-1))
  c6 : W.cell? ⟨g, 6, none⟩ = some (.int .i64 k)
  z6 : W.frozen? ⟨g, 6, none⟩ = false
theorem Mc.of {W W' : World} {g : Nat} {gp cp gs cs gl cl p : Nat} {k : Int} (h : Mc gp cp gs cs gl cl p k g W) (hs : W.heap.size ≤ W'.heap.size) (hc : ∀ c, W'.cell? ⟨g, c, none⟩ = W.cell? ⟨g, c, none⟩) (hf : ∀ c, W'.frozen? ⟨g, c, none⟩ = W.frozen? ⟨g, c, none⟩) : Mc gp cp gs cs gl cl p k g W' := ⟨Nat.lt_of_lt_of_le h.lt hs, (hc 0).trans h.c0, (hc 1).trans h.c1, (hc 2).trans h.c2, (hc 3).trans h.c3, (hc 4).trans h.c4, (hc 5).trans h.c5, (hc 6).trans h.c6, (hf 6).trans h.z6⟩
theorem Mc.below {W W' : World} {g : Nat} {gp cp gs cs gl cl p : Nat} {k : Int} (h : Mc gp cp gs cs gl cl p k g W) (hb : Below W.heap.size W W') : Mc gp cp gs cs gl cl p k g W' := h.of hb.size (fun c => hb.cell (p := ⟨g, c, none⟩) h.lt) (fun c => hb.frozen (p := ⟨g, c, none⟩) h.lt)
theorem Mc.set {W : World} {g : Nat} {gp cp gs cs gl cl p : Nat} {k : Int} (h : Mc gp cp gs cs gl cl p k g W) {a : Addr} (hne : a.block ≠ g) (v : Value) : Mc gp cp gs cs gl cl p k g (W.setCell a v) := h.of (by simp [World.setCell]) (fun c => World.cell?_setCell_other _ _ _ _ (by intro e; exact hne (by rw [e]))) (fun c => World.frozen?_setCell _ _ _ _)
theorem Mc.setK {W : World} {g : Nat} {gp cp gs cs gl cl p : Nat} {k : Int} (h : Mc gp cp gs cs gl cl p k g W) (k' : Int) : Mc gp cp gs cs gl cl p k' g (W.setCell ⟨g, 6, none⟩ (.int .i64 k')) := ⟨by simpa [World.setCell] using h.lt, (World.cell?_setCell_other _ _ _ _ (by intro e; injection e with e1 e2; omega)).trans h.c0, (World.cell?_setCell_other _ _ _ _ (by intro e; injection e with e1 e2; omega)).trans h.c1, (World.cell?_setCell_other _ _ _ _ (by intro e; injection e with e1 e2; omega)).trans h.c2, (World.cell?_setCell_other _ _ _ _ (by intro e; injection e with e1 e2; omega)).trans h.c3, (World.cell?_setCell_other _ _ _ _ (by intro e; injection e with e1 e2; omega)).trans h.c4, (World.cell?_setCell_other _ _ _ _ (by intro e; injection e with e1 e2; omega)).trans h.c5, World.cell?_setCell_same' _ _ _ (by rw [h.c6]; rfl), (World.frozen?_setCell _ _ _ _).trans h.z6⟩
structure Wk (m : Nat) (st fd : Value) (mo : Int) (g : Nat) (W : World) : Prop where
  lt : g < W.heap.size
  c0 : W.cell? ⟨g, 0, none⟩ = some (.pointer (some ⟨m, 0, none⟩))
  c1 : W.cell? ⟨g, 1, none⟩ = some (.bool true)
  c2 : W.cell? ⟨g, 2, none⟩ = some (.int .i64 0)
  c3 : W.cell? ⟨g, 3, none⟩ = some (.int .i64 1)
  c4 : W.cell? ⟨g, 4, none⟩ = some (st)
  c5 : W.cell? ⟨g, 5, none⟩ = some (fd)
  c6 : W.cell? ⟨g, 6, none⟩ = some (.int .i64 mo)
  c7 : W.cell? ⟨g, 7, none⟩ = some (.int .i64 0)
  z4 : W.frozen? ⟨g, 4, none⟩ = false
  z5 : W.frozen? ⟨g, 5, none⟩ = false
  z7 : W.frozen? ⟨g, 7, none⟩ = false
theorem Wk.of {W W' : World} {g : Nat} {m : Nat} {st fd : Value} {mo : Int} (h : Wk m st fd mo g W) (hs : W.heap.size ≤ W'.heap.size) (hc : ∀ c, W'.cell? ⟨g, c, none⟩ = W.cell? ⟨g, c, none⟩) (hf : ∀ c, W'.frozen? ⟨g, c, none⟩ = W.frozen? ⟨g, c, none⟩) : Wk m st fd mo g W' := ⟨Nat.lt_of_lt_of_le h.lt hs, (hc 0).trans h.c0, (hc 1).trans h.c1, (hc 2).trans h.c2, (hc 3).trans h.c3, (hc 4).trans h.c4, (hc 5).trans h.c5, (hc 6).trans h.c6, (hc 7).trans h.c7, (hf 4).trans h.z4, (hf 5).trans h.z5, (hf 7).trans h.z7⟩
theorem Wk.below {W W' : World} {g : Nat} {m : Nat} {st fd : Value} {mo : Int} (h : Wk m st fd mo g W) (hb : Below W.heap.size W W') : Wk m st fd mo g W' := h.of hb.size (fun c => hb.cell (p := ⟨g, c, none⟩) h.lt) (fun c => hb.frozen (p := ⟨g, c, none⟩) h.lt)
theorem Wk.set {W : World} {g : Nat} {m : Nat} {st fd : Value} {mo : Int} (h : Wk m st fd mo g W) {a : Addr} (hne : a.block ≠ g) (v : Value) : Wk m st fd mo g (W.setCell a v) := h.of (by simp [World.setCell]) (fun c => World.cell?_setCell_other _ _ _ _ (by intro e; exact hne (by rw [e]))) (fun c => World.frozen?_setCell _ _ _ _)
theorem Wk.setS {W : World} {g : Nat} {m : Nat} {st fd : Value} {mo : Int} (h : Wk m st fd mo g W) (st' : Value) : Wk m st' fd mo g (W.setCell ⟨g, 4, none⟩ (st')) := ⟨by simpa [World.setCell] using h.lt, (World.cell?_setCell_other _ _ _ _ (by intro e; injection e with e1 e2; omega)).trans h.c0, (World.cell?_setCell_other _ _ _ _ (by intro e; injection e with e1 e2; omega)).trans h.c1, (World.cell?_setCell_other _ _ _ _ (by intro e; injection e with e1 e2; omega)).trans h.c2, (World.cell?_setCell_other _ _ _ _ (by intro e; injection e with e1 e2; omega)).trans h.c3, World.cell?_setCell_same' _ _ _ (by rw [h.c4]; rfl), (World.cell?_setCell_other _ _ _ _ (by intro e; injection e with e1 e2; omega)).trans h.c5, (World.cell?_setCell_other _ _ _ _ (by intro e; injection e with e1 e2; omega)).trans h.c6, (World.cell?_setCell_other _ _ _ _ (by intro e; injection e with e1 e2; omega)).trans h.c7, (World.frozen?_setCell _ _ _ _).trans h.z4, (World.frozen?_setCell _ _ _ _).trans h.z5, (World.frozen?_setCell _ _ _ _).trans h.z7⟩
theorem Wk.setF {W : World} {g : Nat} {m : Nat} {st fd : Value} {mo : Int} (h : Wk m st fd mo g W) (fd' : Value) : Wk m st fd' mo g (W.setCell ⟨g, 5, none⟩ (fd')) := ⟨by simpa [World.setCell] using h.lt, (World.cell?_setCell_other _ _ _ _ (by intro e; injection e with e1 e2; omega)).trans h.c0, (World.cell?_setCell_other _ _ _ _ (by intro e; injection e with e1 e2; omega)).trans h.c1, (World.cell?_setCell_other _ _ _ _ (by intro e; injection e with e1 e2; omega)).trans h.c2, (World.cell?_setCell_other _ _ _ _ (by intro e; injection e with e1 e2; omega)).trans h.c3, (World.cell?_setCell_other _ _ _ _ (by intro e; injection e with e1 e2; omega)).trans h.c4, World.cell?_setCell_same' _ _ _ (by rw [h.c5]; rfl), (World.cell?_setCell_other _ _ _ _ (by intro e; injection e with e1 e2; omega)).trans h.c6, (World.cell?_setCell_other _ _ _ _ (by intro e; injection e with e1 e2; omega)).trans h.c7, (World.frozen?_setCell _ _ _ _).trans h.z4, (World.frozen?_setCell _ _ _ _).trans h.z5, (World.frozen?_setCell _ _ _ _).trans h.z7⟩
structure Fr (p : Nat) (sl : Int) (nx : Value) (g : Nat) (W : World) : Prop where
  lt : g < W.heap.size
  c0 : W.cell? ⟨g, 0, none⟩ = some (.int .i64 0)
  c1 : W.cell? ⟨g, 1, none⟩ = some (.int .i64 sl)
  c2 : W.cell? ⟨g, 2, none⟩ = some (.pointer (some ⟨p, 0, none⟩))
  c3 : W.cell? ⟨g, 3, none⟩ = some (.int .i64 (-1))
  c4 : W.cell? ⟨g, 4, none⟩ = some (.pointer (some ⟨p, 0, none⟩))
  c5 : W.cell? ⟨g, 5, none⟩ = some (.int .i64 (-1))
  c6 : W.cell? ⟨g, 6, none⟩ = some (nx)
  z1 : W.frozen? ⟨g, 1, none⟩ = false
  z6 : W.frozen? ⟨g, 6, none⟩ = false
theorem Fr.of {W W' : World} {g : Nat} {p : Nat} {sl : Int} {nx : Value} (h : Fr p sl nx g W) (hs : W.heap.size ≤ W'.heap.size) (hc : ∀ c, W'.cell? ⟨g, c, none⟩ = W.cell? ⟨g, c, none⟩) (hf : ∀ c, W'.frozen? ⟨g, c, none⟩ = W.frozen? ⟨g, c, none⟩) : Fr p sl nx g W' := ⟨Nat.lt_of_lt_of_le h.lt hs, (hc 0).trans h.c0, (hc 1).trans h.c1, (hc 2).trans h.c2, (hc 3).trans h.c3, (hc 4).trans h.c4, (hc 5).trans h.c5, (hc 6).trans h.c6, (hf 1).trans h.z1, (hf 6).trans h.z6⟩
theorem Fr.below {W W' : World} {g : Nat} {p : Nat} {sl : Int} {nx : Value} (h : Fr p sl nx g W) (hb : Below W.heap.size W W') : Fr p sl nx g W' := h.of hb.size (fun c => hb.cell (p := ⟨g, c, none⟩) h.lt) (fun c => hb.frozen (p := ⟨g, c, none⟩) h.lt)
theorem Fr.set {W : World} {g : Nat} {p : Nat} {sl : Int} {nx : Value} (h : Fr p sl nx g W) {a : Addr} (hne : a.block ≠ g) (v : Value) : Fr p sl nx g (W.setCell a v) := h.of (by simp [World.setCell]) (fun c => World.cell?_setCell_other _ _ _ _ (by intro e; exact hne (by rw [e]))) (fun c => World.frozen?_setCell _ _ _ _)
theorem Fr.setL {W : World} {g : Nat} {p : Nat} {sl : Int} {nx : Value} (h : Fr p sl nx g W) (sl' : Int) : Fr p sl' nx g (W.setCell ⟨g, 1, none⟩ (.int .i64 sl')) := ⟨by simpa [World.setCell] using h.lt, (World.cell?_setCell_other _ _ _ _ (by intro e; injection e with e1 e2; omega)).trans h.c0, World.cell?_setCell_same' _ _ _ (by rw [h.c1]; rfl), (World.cell?_setCell_other _ _ _ _ (by intro e; injection e with e1 e2; omega)).trans h.c2, (World.cell?_setCell_other _ _ _ _ (by intro e; injection e with e1 e2; omega)).trans h.c3, (World.cell?_setCell_other _ _ _ _ (by intro e; injection e with e1 e2; omega)).trans h.c4, (World.cell?_setCell_other _ _ _ _ (by intro e; injection e with e1 e2; omega)).trans h.c5, (World.cell?_setCell_other _ _ _ _ (by intro e; injection e with e1 e2; omega)).trans h.c6, (World.frozen?_setCell _ _ _ _).trans h.z1, (World.frozen?_setCell _ _ _ _).trans h.z6⟩
theorem Fr.setN {W : World} {g : Nat} {p : Nat} {sl : Int} {nx : Value} (h : Fr p sl nx g W) (nx' : Value) : Fr p sl nx' g (W.setCell ⟨g, 6, none⟩ (nx')) := ⟨by simpa [World.setCell] using h.lt, (World.cell?_setCell_other _ _ _ _ (by intro e; injection e with e1 e2; omega)).trans h.c0, (World.cell?_setCell_other _ _ _ _ (by intro e; injection e with e1 e2; omega)).trans h.c1, (World.cell?_setCell_other _ _ _ _ (by intro e; injection e with e1 e2; omega)).trans h.c2, (World.cell?_setCell_other _ _ _ _ (by intro e; injection e with e1 e2; omega)).trans h.c3, (World.cell?_setCell_other _ _ _ _ (by intro e; injection e with e1 e2; omega)).trans h.c4, (World.cell?_setCell_other _ _ _ _ (by intro e; injection e with e1 e2; omega)).trans h.c5, World.cell?_setCell_same' _ _ _ (by rw [h.c6]; rfl), (World.frozen?_setCell _ _ _ _).trans h.z1, (World.frozen?_setCell _ _ _ _).trans h.z6⟩
structure Cw (p : Nat) (g : Nat) (W : World) : Prop where
  lt : g < W.heap.size
  c0 : W.cell? ⟨g, 0, none⟩ = some (.pointer (some ⟨p, 0, none⟩))
  c1 : W.cell? ⟨g, 1, none⟩ = some (.int .i64 1)
theorem Cw.of {W W' : World} {g : Nat} {p : Nat} (h : Cw p g W) (hs : W.heap.size ≤ W'.heap.size) (hc : ∀ c, W'.cell? ⟨g, c, none⟩ = W.cell? ⟨g, c, none⟩) (hf : ∀ c, W'.frozen? ⟨g, c, none⟩ = W.frozen? ⟨g, c, none⟩) : Cw p g W' := ⟨Nat.lt_of_lt_of_le h.lt hs, (hc 0).trans h.c0, (hc 1).trans h.c1⟩
theorem Cw.below {W W' : World} {g : Nat} {p : Nat} (h : Cw p g W) (hb : Below W.heap.size W W') : Cw p g W' := h.of hb.size (fun c => hb.cell (p := ⟨g, c, none⟩) h.lt) (fun c => hb.frozen (p := ⟨g, c, none⟩) h.lt)
theorem Cw.set {W : World} {g : Nat} {p : Nat} (h : Cw p g W) {a : Addr} (hne : a.block ≠ g) (v : Value) : Cw p g (W.setCell a v) := h.of (by simp [World.setCell]) (fun c => World.cell?_setCell_other _ _ _ _ (by intro e; exact hne (by rw [e]))) (fun c => World.frozen?_setCell _ _ _ _)
end Go.Proofs.YtjelneeeijjpiaaGreatDoor
end
section
namespace Go.Proofs.YtjelneeeijjpiaaGreatDoor
open Go.RowKit
theorem info382 : (Tryz.prog.info? 382).map (fun i => (i.zero, i.size, i.bytes)) = some (some (.agg #[.int .i64 0, .int .i64 0, .pointer none, .int .i64 0, .pointer none, .int .i64 0, .nilFunc]), 7, 56) := by kernel_rfl
theorem run_store_nilFunc {P : Program} {w : World} {a : Addr} {m : Mode} : (store a .nilFunc m).run P w = stored P w a .nilFunc m := run_store P w a _ m rfl
theorem run_store_func {P : Program} {w : World} {a : Addr} {m : Mode} (f : Fn) (b c : Array Value) : (store a (.func f b c) m).run P w = stored P w a (.func f b c) m := run_store P w a _ m rfl
attribute [local go_sem] run_store_nilFunc run_store_func
theorem step_push_dd {P : Program} {ops : Array Oper} {o : Oper} {a : Act} {K : Act → World → Prop} {Q : Exit → Act → World → Prop} {E : Prop} {w0 w : World} {C : Array Value} {ty : TypeId} (hgd : o.guard = none) (s x : Operand) (t : TypeId)
    (ho : o.op = .call { callee := .builtin .append, args := #[s, x], argTypes := #[t, t] })
    (e : TypeId) (i : TypeInfo) (z : Value) (size bytes : Nat) (ht : P.underlying t = some (.slice e)) (hi : P.info? e = some i) (hz : i.zero = some z)
    (hsize : i.size = size) (hby : i.bytes = bytes) (hzs : z.cells.size = size) (hsz : 0 < size)
    {v : Value} {n : Nat} {xs : List Value} (hA : Acc w0 w.drew.drew e size v n xs) (hs : a.eval s = v)
    {H : Nat} (hx : a.eval x = .slice (some ⟨H, 0, none⟩) 1 1) (hH : w.heap.size = H) (hC : C.size = size) (h1 : C.toList.all (·.oneCell') = true)
    (h63 : n < 1000) (hbytes : bytes ≤ 1000)
    (h : ∀ g cap w', Acc w0 w' e size (.slice (some ⟨g, 0, none⟩) (n + 1) cap) (n + 1) (xs ++ C.toList) → K (a.put o.dst (.slice (some ⟨g, 0, none⟩) (n + 1) cap)) w') :
    if Region.wanted o (yielded ops a.tmps) = true then Oper.wp P o a (w.alloc (.cells C ty)).drew.drew K Q else E :=
  step_push (w := w.drew.drew) hgd s x t ho e i z size bytes ht hi hz hsize hby hzs hsz hA hs hx hH hC h1 h63 hbytes h
theorem step_push_d3 {P : Program} {ops : Array Oper} {o : Oper} {a : Act} {K : Act → World → Prop} {Q : Exit → Act → World → Prop} {E : Prop} {w0 w : World} {C : Array Value} {ty : TypeId} (hgd : o.guard = none) (s x : Operand) (t : TypeId)
    (ho : o.op = .call { callee := .builtin .append, args := #[s, x], argTypes := #[t, t] })
    (e : TypeId) (i : TypeInfo) (z : Value) (size bytes : Nat) (ht : P.underlying t = some (.slice e)) (hi : P.info? e = some i) (hz : i.zero = some z)
    (hsize : i.size = size) (hby : i.bytes = bytes) (hzs : z.cells.size = size) (hsz : 0 < size)
    {v : Value} {n : Nat} {xs : List Value} (hA : Acc w0 w.drew.drew.drew e size v n xs) (hs : a.eval s = v)
    {H : Nat} (hx : a.eval x = .slice (some ⟨H, 0, none⟩) 1 1) (hH : w.heap.size = H) (hC : C.size = size) (h1 : C.toList.all (·.oneCell') = true)
    (h63 : n < 1000) (hbytes : bytes ≤ 1000)
    (h : ∀ g cap w', Acc w0 w' e size (.slice (some ⟨g, 0, none⟩) (n + 1) cap) (n + 1) (xs ++ C.toList) → K (a.put o.dst (.slice (some ⟨g, 0, none⟩) (n + 1) cap)) w') :
    if Region.wanted o (yielded ops a.tmps) = true then Oper.wp P o a (w.alloc (.cells C ty)).drew.drew.drew K Q else E :=
  step_push (w := w.drew.drew.drew) hgd s x t ho e i z size bytes ht hi hz hsize hby hzs hsz hA hs hx hH hC h1 h63 hbytes h
theorem Acc.frz {w0 w : World} {e : TypeId} {size : Nat} {g cap n : Nat} {xs : List Value} (h : Acc w0 w e size (.slice (some ⟨g, 0, none⟩) (n + 1) cap) (n + 1) xs) (j : Nat) : w.frozen? ⟨g, j, none⟩ = false := by
  rcases h.own.2 with ⟨hv, h0⟩ | ⟨g', cap', cur, hv, hb, hg, _, _, hs, hx⟩
  · omega
  · injection hv with hv _ _
    injection hv with hv
    injection hv with hv _ _
    subst hv
    simp [World.frozen?, hg]
set_option maxRecDepth 100000 in
set_option maxHeartbeats 2000000 in
theorem vstep_0 (gp cp gs cs gl cl p m : Nat) (w : World) (hM : Mc gp cp gs cs gl cl p 0 m w) : Calls Tryz.prog 264 #[.pointer (some ⟨m, 0, none⟩)] w fun e w' => e = .returned (.bool true) ∧ w' = w.setCell ⟨m, 6, none⟩ (.int .i64 1) := by
  go_enter Tryz.func264, Tryz.ntmps264
  have mlt := hM.lt
  have mlt1 : m < w.heap.size + 1 := by omega
  have mlt2 : m < w.heap.size + 1 + 1 := by omega
  have mlt3 : m < w.heap.size + 1 + 1 + 1 := by omega
  have mlt4 : m < w.heap.size + 1 + 1 + 1 + 1 := by omega
  have mlt5 : m < w.heap.size + 1 + 1 + 1 + 1 + 1 := by omega
  have mlt6 : m < w.heap.size + 1 + 1 + 1 + 1 + 1 + 1 := by omega
  have mlt7 : m < w.heap.size + 1 + 1 + 1 + 1 + 1 + 1 + 1 := by omega
  have m0 := hM.c0
  have m1 := hM.c1
  have m2 := hM.c2
  have m3 := hM.c3
  have m4 := hM.c4
  have m5 := hM.c5
  have m6 := hM.c6
  have mz6 := hM.z6
  go_wp2_with fail
  go_ret
  exact ⟨rfl, rfl⟩
def DownP (w : World) (a p : Nat) (e : Ending) (w' : World) : Prop := e = .returned (.tuple #[]) ∧ ∃ g c W1, w' = World.setCell W1 ⟨a, 4, none⟩ (.slice (some ⟨g, 0, none⟩) 1 c) ∧ Below w.heap.size w W1 ∧ w.heap.size ≤ g ∧ Fr p 0 .nilFunc g W1
set_option maxRecDepth 100000 in
set_option maxHeartbeats 2000000 in
theorem down_0 (gp cp gs cs gl cl p m a : Nat) (fd : Value) (mo : Int) (w : World) (hW : Wk m (.slice none 0 0) fd mo a w) (hM : Mc gp cp gs cs gl cl p 0 m w) (hC : Cd gp gs gl w) : Calls Tryz.prog 306 #[.pointer (some ⟨a, 0, none⟩), .int .i64 0, .agg #[.pointer (some ⟨p, 0, none⟩), .int .i64 (-1)]] w fun e w' => DownP w a p e w' := by
  obtain ⟨i0, hi0, hz0, hs0, hb0⟩ := info_parts info382
  go_enter Tryz.func306, Tryz.ntmps306
  have alt := hW.lt
  have alt1 : a < w.heap.size + 1 := by omega
  have alt2 : a < w.heap.size + 1 + 1 := by omega
  have alt3 : a < w.heap.size + 1 + 1 + 1 := by omega
  have alt4 : a < w.heap.size + 1 + 1 + 1 + 1 := by omega
  have alt5 : a < w.heap.size + 1 + 1 + 1 + 1 + 1 := by omega
  have alt6 : a < w.heap.size + 1 + 1 + 1 + 1 + 1 + 1 := by omega
  have alt7 : a < w.heap.size + 1 + 1 + 1 + 1 + 1 + 1 + 1 := by omega
  have w0 := hW.c0
  have w1 := hW.c1
  have w2 := hW.c2
  have w3 := hW.c3
  have w4 := hW.c4
  have w5 := hW.c5
  have w6 := hW.c6
  have w7 := hW.c7
  have wz4 := hW.z4
  have wz5 := hW.z5
  have wz7 := hW.z7
  have mlt := hM.lt
  have mlt1 : m < w.heap.size + 1 := by omega
  have mlt2 : m < w.heap.size + 1 + 1 := by omega
  have mlt3 : m < w.heap.size + 1 + 1 + 1 := by omega
  have mlt4 : m < w.heap.size + 1 + 1 + 1 + 1 := by omega
  have mlt5 : m < w.heap.size + 1 + 1 + 1 + 1 + 1 := by omega
  have mlt6 : m < w.heap.size + 1 + 1 + 1 + 1 + 1 + 1 := by omega
  have mlt7 : m < w.heap.size + 1 + 1 + 1 + 1 + 1 + 1 + 1 := by omega
  have m0 := hM.c0
  have m1 := hM.c1
  have m2 := hM.c2
  have m3 := hM.c3
  have m4 := hM.c4
  have m5 := hM.c5
  have m6 := hM.c6
  have mz6 := hM.z6
  have gplt0 : gp < w.heap.size := by have := hC.p.lt; omega
  have gplt1 : gp < w.heap.size + 1 := by have := hC.p.lt; omega
  have gplt2 : gp < w.heap.size + 1 + 1 := by have := hC.p.lt; omega
  have gplt3 : gp < w.heap.size + 1 + 1 + 1 := by have := hC.p.lt; omega
  have gplt4 : gp < w.heap.size + 1 + 1 + 1 + 1 := by have := hC.p.lt; omega
  have gplt5 : gp < w.heap.size + 1 + 1 + 1 + 1 + 1 := by have := hC.p.lt; omega
  have gplt6 : gp < w.heap.size + 1 + 1 + 1 + 1 + 1 + 1 := by have := hC.p.lt; omega
  have gplt7 : gp < w.heap.size + 1 + 1 + 1 + 1 + 1 + 1 + 1 := by have := hC.p.lt; omega
  have gslt0 : gs < w.heap.size := by have := hC.s.lt; omega
  have gslt1 : gs < w.heap.size + 1 := by have := hC.s.lt; omega
  have gslt2 : gs < w.heap.size + 1 + 1 := by have := hC.s.lt; omega
  have gslt3 : gs < w.heap.size + 1 + 1 + 1 := by have := hC.s.lt; omega
  have gslt4 : gs < w.heap.size + 1 + 1 + 1 + 1 := by have := hC.s.lt; omega
  have gslt5 : gs < w.heap.size + 1 + 1 + 1 + 1 + 1 := by have := hC.s.lt; omega
  have gslt6 : gs < w.heap.size + 1 + 1 + 1 + 1 + 1 + 1 := by have := hC.s.lt; omega
  have gslt7 : gs < w.heap.size + 1 + 1 + 1 + 1 + 1 + 1 + 1 := by have := hC.s.lt; omega
  have gllt0 : gl < w.heap.size := by have := hC.l.lt; omega
  have gllt1 : gl < w.heap.size + 1 := by have := hC.l.lt; omega
  have gllt2 : gl < w.heap.size + 1 + 1 := by have := hC.l.lt; omega
  have gllt3 : gl < w.heap.size + 1 + 1 + 1 := by have := hC.l.lt; omega
  have gllt4 : gl < w.heap.size + 1 + 1 + 1 + 1 := by have := hC.l.lt; omega
  have gllt5 : gl < w.heap.size + 1 + 1 + 1 + 1 + 1 := by have := hC.l.lt; omega
  have gllt6 : gl < w.heap.size + 1 + 1 + 1 + 1 + 1 + 1 := by have := hC.l.lt; omega
  have gllt7 : gl < w.heap.size + 1 + 1 + 1 + 1 + 1 + 1 + 1 := by have := hC.l.lt; omega
  have dp0 := hC.p.c0
  have dp1 := hC.p.c1
  have dp2 := hC.p.c2
  have ds0 := hC.s.c0
  have ds1 := hC.s.c1
  have ds2 := hC.s.c2
  have dl0 := hC.l.c0
  have dl1 := hC.l.c1
  have dl2 := hC.l.c2
  have dl3 := hC.l.c3
  have dl4 := hC.l.c4
  have dl5 := hC.l.c5
  have dl6 := hC.l.c6
  have dl7 := hC.l.c7
  go_wp2_with fail
  go_region
  go_wp2_with fail
  go_region_law ((first | ((first | refine step_push rfl _ _ 320 rfl 382 i0 _ 7 56 Tryz.underlying320 hi0 hz0 hs0 hb0 rfl (by omega) (Acc.nil (Below.refl _ _) 382 7) rfl rfl (by first | rfl | simp) rfl rfl (by omega) (by omega) ?_ | refine step_push_d rfl _ _ 320 rfl 382 i0 _ 7 56 Tryz.underlying320 hi0 hz0 hs0 hb0 rfl (by omega) (Acc.nil (Below.refl _ _) 382 7) rfl rfl (by first | rfl | simp) rfl rfl (by omega) (by omega) ?_ | refine step_push_dd rfl _ _ 320 rfl 382 i0 _ 7 56 Tryz.underlying320 hi0 hz0 hs0 hb0 rfl (by omega) (Acc.nil (Below.refl _ _) 382 7) rfl rfl (by first | rfl | simp) rfl rfl (by omega) (by omega) ?_ | refine step_push_d3 rfl _ _ 320 rfl 382 i0 _ 7 56 Tryz.underlying320 hi0 hz0 hs0 hb0 rfl (by omega) (Acc.nil (Below.refl _ _) 382 7) rfl rfl (by first | rfl | simp) rfl rfl (by omega) (by omega) ?_); intro gn cn w3 hA; have xa := hA.bel.cell (p := ⟨a, 4, none⟩) (by first | (simp; done) | (simp; omega) | omega | (simp [World.setCell]; omega)); have xb := hA.bel.frozen (p := ⟨a, 4, none⟩) (by first | (simp; done) | (simp; omega) | omega | (simp [World.setCell]; omega)); simp [go_sem, *] at xa xb; have HA := Lib.hid hA; have HB := bel_step (w := w) (by (repeat' (first | refine Below.setCell ?_ (by first | (simp; done) | (simp; omega) | omega | (simp [World.setCell]; omega)) _ | refine Below.alloc ?_ (by first | (simp; done) | (simp; omega) | omega | (simp [World.setCell]; omega)) _ | refine below_drewN' ?_ _ | refine Below.drew ?_ | exact Hid.out (by assumption) | exact Below.refl _ _))) hA.bel; clear hA)))
  all_goals have hr := HA.out.row
  all_goals have hr1 := hr.1
  all_goals simp at hr1
  all_goals exact bodyPost_end (v := .tuple #[]) (by simp [results, Tryz.results306, go_sem]) rfl ⟨rfl, gn, cn, w3, rfl, HB.out, by omega, ⟨hr.2.1, hr.2.2 0 _ rfl, hr.2.2 1 _ rfl, hr.2.2 2 _ rfl, hr.2.2 3 _ rfl, hr.2.2 4 _ rfl, hr.2.2 5 _ rfl, hr.2.2 6 _ rfl, HA.out.frz 1, HA.out.frz 6⟩⟩
end Go.Proofs.YtjelneeeijjpiaaGreatDoor
end
