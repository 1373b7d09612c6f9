/- TopText: walks and plain laws, part 32: lemmas on what the functions that the law comes to compute. -/
import Derived.Test.YtjelneeeijjpiaaGreatDoorG31
import Derived.Test.YtjelneeeijjpiaaGreatDoorG29
import Derived.Test.YtjelneeeijjpiaaGreatDoorG28
set_option linter.unusedVariables false
set_option linter.unusedSimpArgs false
section
namespace Go.Proofs.YtjelneeeijjpiaaGreatDoor
open Go.RowKit
set_option maxRecDepth 100000 in
set_option maxHeartbeats 4000000 in
theorem stA2 (w0 : World) (a m gp cp gs cs gl cl : Nat) (mo : Int) (hmo : 1 ≤ mo) (p n L : Nat) (T V : ByteArray) (hD : Doc T V n L) (hX : Ix w0 p T n) (J : Nat → Act → World → Prop) (Q : Exit → Act → World → Prop) (x : Act) (W : World) (hx : Ac a x) (hS : StA w0 a m p gp cp gs cs gl cl mo W) (hJ : ∀ a' W', Ac a a' → StB w0 a m p gp cp gs cs gl cl mo W' → J 0 a' W') : ∃ rest, findLabel (scopeBody Tryz.f201) 0 = some (Code.skip.seq rest) ∧ rest.wp Tryz.prog (jumps J Q) x W := by
  obtain ⟨g, c, H⟩ := hS
  have hx1 := hx.fx
  refine ⟨_, rfl, ?_⟩
  repeat refine wp_seq ?_
  refine rg2 rfl a g c x hx1 W H.hW.c7 H.hW.c4 _ _ ?_
  intro x2 hx2
  refine wp_cond_false (hx2.ev 30 (.bool false) (by simp)) ?_
  refine wp_skip ?_
  show Code.wp _ _ _ _ _
  repeat refine wp_seq ?_
  refine rg3 rfl a g c x2 (hx2.sub (by simp)) W H.hW.c4 _ _ ?_
  intro x3 n3 hx3
  have H3 : RS w0 a m p gp cp gs cs gl cl g mo (.slice (some ⟨g, 0, none⟩) 1 c) (.slice none 0 0) 0 .nilFunc 0 (W.drewN n3) := H.below (below_drewN' (Below.refl _ _) _)
  generalize W.drewN n3 = W3 at H3 ⊢
  clear H hx2 hx hx1
  show Code.wp _ _ _ _ _
  repeat refine wp_seq ?_
  refine rg4 rfl a g m gs cs x3 hx3 W3 H3.hW.c0 H3.hM.c1 H3.hC.s.c0 H3.hC.s.c1 H3.hC.s.c2 H3.hF.c0 H3.hW.lt H3.hM.lt H3.hC.s.lt H3.hF.lt _ _ ?_
  intro x4 W4 hx4 b4 l4 d0 d2
  have H4 : RS w0 a m p gp cp gs cs gl cl g mo (.slice (some ⟨g, 0, none⟩) 1 c) (.slice none 0 0) 0 .nilFunc 0 W4 := H3.below b4
  generalize W3.heap.size = D at hx4 l4 d0 d2
  clear H3 hx3 b4
  show Code.wp _ _ _ _ _
  repeat refine wp_seq ?_
  refine rg5t rfl a g D x4 hx4 W4 H4.hF.c1 d2 _ _ ?_
  intro x5 n5 hx5
  have H5 : RS w0 a m p gp cp gs cs gl cl g mo (.slice (some ⟨g, 0, none⟩) 1 c) (.slice none 0 0) 0 .nilFunc 0 (W4.drewN n5) := H4.below (below_drewN' (Below.refl _ _) _)
  generalize W4.drewN n5 = W5 at H5 ⊢
  refine wp_cond_true (hx5.ev 62 (.bool true) (by simp)) ?_
  clear H4 hx4 d0 d2 l4
  repeat refine wp_seq ?_
  refine rg6n rfl a g D x5 (hx5.sub (by simp)) W5 H5.hF.c6 _ _ ?_
  intro x6 hx6
  refine wp_cond_true (hx6.ev 67 (.bool true) (by simp)) ?_
  show Code.wp _ _ _ _ _
  repeat (first | refine wp_seq ?_ | refine wp_block ?_)
  refine wp_then_self ?_
  refine rg7 rfl w0 a m p gp cp gs cs gl cl g c mo n L T V hD hX x6 (hx6.sub (by simp)) W5 H5 _ _ ?_
  intro x7 W7 bx gc hx7 H7 q0 qa qm qg qgp qgs qgl hbx bc bz hcw
  clear H5 hx5 hx6
  show Code.wp _ _ _ _ _
  repeat (first | refine wp_seq ?_ | refine wp_block ?_)
  refine rg8a rfl a g p bx gc x7 hx7 W7 H7.hF.c6 H7.hF.lt hbx bc bz hcw _ _ ?_
  intro x8 w3 hx8 hb3
  have H8 := (H7.other (q := ⟨bx, 0, none⟩) q0 qa qm qg qgp qgs qgl (.slice (some ⟨gc, 0, none⟩) 0 0)).below (by rw [setCell_size]; exact hb3)
  have bc3 := (hb3.cell (p := ⟨bx, 0, none⟩) hbx).trans (World.cell?_setCell_same' _ _ _ (by rw [bc]; rfl))
  have s3 := hb3.size
  rw [setCell_size] at s3
  have hbx3 := Nat.lt_of_lt_of_le hbx s3
  have al : Below w3.heap.size w3 (w3.alloc (.cells #[.pointer (some ⟨p, 0, none⟩), .int .i64 1] 139)) := (Below.refl _ _).alloc (Nat.le_refl _) _
  have em : w3.heap.size ≠ m := by have := H8.hM.lt; omega
  have ea : w3.heap.size ≠ a := by have := H8.hW.lt; omega
  have elt : w3.heap.size < (w3.alloc (.cells #[.pointer (some ⟨p, 0, none⟩), .int .i64 1] 139)).heap.size := by simp
  have e0 : (w3.alloc (.cells #[.pointer (some ⟨p, 0, none⟩), .int .i64 1] 139)).cell? ⟨w3.heap.size, 0, none⟩ = some (.pointer (some ⟨p, 0, none⟩)) := by simp [go_sem]
  have e1 : (w3.alloc (.cells #[.pointer (some ⟨p, 0, none⟩), .int .i64 1] 139)).cell? ⟨w3.heap.size, 1, none⟩ = some (.int .i64 1) := by simp [go_sem]
  have H9 : RS w0 a m p gp cp gs cs gl cl g mo (.slice (some ⟨g, 0, none⟩) 1 c) (.slice none 0 0) 0 (.func (.func 341) #[] #[.pointer (some ⟨bx, 0, none⟩)]) 0 (w3.alloc (.cells #[.pointer (some ⟨p, 0, none⟩), .int .i64 1] 139)) := H8.below al
  have bc9 := (al.cell (p := ⟨bx, 0, none⟩) hbx3).trans bc3
  have hbx9 := Nat.lt_of_lt_of_le hbx3 al.size
  clear H7 hx7 hb3 H8 bc3 s3 hbx3 hbx bc bz hcw q0 qg qgp qgs qgl al
  generalize w3.alloc (.cells #[.pointer (some ⟨p, 0, none⟩), .int .i64 1] 139) = W9 at elt e0 e1 H9 bc9 hbx9 ⊢
  generalize w3.heap.size = e at hx8 em ea elt e0 e1
  show Code.wp _ _ _ _ _
  repeat (first | refine wp_seq ?_ | refine wp_block ?_)
  refine rg11a rfl a g _ _ x8 hx8 W9 H9.hW.c7 _ _ ?_
  intro x9 hx9
  refine wp_cond_false (hx9.ev 109 (.bool false) (by simp)) ?_
  repeat (first | refine wp_seq ?_ | refine wp_block ?_)
  refine rg12t rfl a g (.pointer (some ⟨e, 0, none⟩)) x9 (hx9.sub (by simp)) W9 _ _ ?_
  intro x10 hx10
  refine wp_cond_true (hx10.ev 115 (.bool true) (by simp)) ?_
  repeat (first | refine wp_seq ?_ | refine wp_block ?_)
  refine wp_then_self ?_
  refine rg13 rfl w0 a m p gp cp gs cs gl cl g c e bx gc mo hmo x10 (hx10.sub (by simp)) W9 H9 elt e0 e1 em ea hbx9 bc9 qm qa _ _ ?_
  intro x11 W11 gf cf hx11 H11 X11 C11 g6 ga gm gg
  show Code.wp Tryz.prog (Code.goto 0) _ _ _
  refine wp_goto ?_
  show J 0 _ _
  exact hJ _ _ ⟨hx11.1, hx11.2.1, hx11.2.2 (0, _) (by simp)⟩ ⟨g, c, gf, cf, bx, gc, H11, ⟨X11.lt, X11.c⟩, C11, g6, ga, gm, gg⟩
end Go.Proofs.YtjelneeeijjpiaaGreatDoor
end
section
namespace Go.Proofs.YtjelneeeijjpiaaGreatDoor
open Go.RowKit
attribute [local go_sem] run_store_nilFunc run_store_func eqn_nil eqn_func
structure G4 (p g : Nat) (W0 W : World) : Prop where
  b : Below W0.heap.size W0 W
  lt : g < W.heap.size
  c : (W).cell? ⟨g, 2, none⟩ = some (.pointer (some ⟨p, 0, none⟩)) ∧ (W).cell? ⟨g, 3, none⟩ = some (.int .i64 (-1)) ∧ (W).cell? ⟨g, 4, none⟩ = some (.pointer (some ⟨p, 0, none⟩)) ∧ (W).cell? ⟨g, 5, none⟩ = some (.int .i64 (-1))
theorem g4_below {p g : Nat} {W0 W W' : World} (h : Hid (G4 p g W0 W)) (hb : Below W.heap.size W W') : Hid (G4 p g W0 W') := Lib.hid ⟨h.out.b.trans (hb.mono h.out.b.size), Nat.lt_of_lt_of_le h.out.lt hb.size, (hb.cell (p := ⟨g, 2, none⟩) h.out.lt).trans h.out.c.1, (hb.cell (p := ⟨g, 3, none⟩) h.out.lt).trans h.out.c.2.1, (hb.cell (p := ⟨g, 4, none⟩) h.out.lt).trans h.out.c.2.2.1, (hb.cell (p := ⟨g, 5, none⟩) h.out.lt).trans h.out.c.2.2.2⟩
theorem g4_drew {p g : Nat} {W0 W : World} (h : Hid (G4 p g W0 W)) : Hid (G4 p g W0 W.drew) := g4_below h (Below.refl _ _).drew
theorem g4_alloc {p g : Nat} {W0 W : World} (h : Hid (G4 p g W0 W)) (o : Obj) : Hid (G4 p g W0 (W.alloc o)) := g4_below h ((Below.refl _ _).alloc (Nat.le_refl _) o)
theorem g4_set {p g : Nat} {W0 W : World} (h : Hid (G4 p g W0 W)) (hg : g < W0.heap.size) {b : Nat} (c : Nat) (hb : W0.heap.size ≤ b) (v : Value) : Hid (G4 p g W0 (W.setCell ⟨b, c, none⟩ v)) := by
  have hne : ∀ k, (⟨b, c, none⟩ : Addr) ≠ ⟨g, k, none⟩ := fun k e => by injection e with e1; omega
  exact Lib.hid ⟨Below.setCell h.out.b hb v, by simpa [World.setCell] using h.out.lt, (World.cell?_setCell_other _ _ _ _ (hne 2)).trans h.out.c.1, (World.cell?_setCell_other _ _ _ _ (hne 3)).trans h.out.c.2.1, (World.cell?_setCell_other _ _ _ _ (hne 4)).trans h.out.c.2.2.1, (World.cell?_setCell_other _ _ _ _ (hne 5)).trans h.out.c.2.2.2⟩
theorem g4_held {p g : Nat} {W0 W : World} (h : Hid (G4 p g W0 W)) : (W).cell? ⟨g, 2, none⟩ = some (.pointer (some ⟨p, 0, none⟩)) ∧ (W).cell? ⟨g, 3, none⟩ = some (.int .i64 (-1)) ∧ (W).cell? ⟨g, 4, none⟩ = some (.pointer (some ⟨p, 0, none⟩)) ∧ (W).cell? ⟨g, 5, none⟩ = some (.int .i64 (-1)) ∧ Hid (G4 p g W0 W) := ⟨h.out.c.1, h.out.c.2.1, h.out.c.2.2.1, h.out.c.2.2.2, h⟩
set_option maxRecDepth 100000 in
set_option maxHeartbeats 4000000 in
theorem rg14 {c : Code} (hc : regionOf (scopeBody Tryz.f201) 14 = some c) (a g D p n L : Nat) (T V : ByteArray) (hD : Doc T V n L) (x : Act) (hx : Fx [(0, .pointer (some ⟨a, 0, none⟩)), (4, .pointer (some ⟨g, 0, none⟩)), (5, .pointer (some ⟨D, 0, none⟩))] x) (W : World) (hXW : Ix W p T n) (fr2 : W.cell? ⟨g, 2, none⟩ = some (.pointer (some ⟨p, 0, none⟩))) (fr3 : W.cell? ⟨g, 3, none⟩ = some (.int .i64 (-1))) (fr4 : W.cell? ⟨g, 4, none⟩ = some (.pointer (some ⟨p, 0, none⟩))) (fr5 : W.cell? ⟨g, 5, none⟩ = some (.int .i64 (-1))) (glt : g < W.heap.size) (K : Act → World → Prop) (Q : Exit → Act → World → Prop) (hk : ∀ x' W', Fx [(0, .pointer (some ⟨a, 0, none⟩)), (4, .pointer (some ⟨g, 0, none⟩)), (5, .pointer (some ⟨D, 0, none⟩)), (9, .bool true)] x' → Below W.heap.size W W' → K x' W') : c.wp Tryz.prog (Exit.then K Q) x W := by
  injection (show some c = some _ from hc.symm.trans rfl) with hc
  subst hc
  have kv0 := hx.at 0 (.pointer (some ⟨a, 0, none⟩)) (by simp)
  have kv4 := hx.at 4 (.pointer (some ⟨g, 0, none⟩)) (by simp)
  have kv5 := hx.at 5 (.pointer (some ⟨D, 0, none⟩)) (by simp)
  have e := hx.lit_of #[.pointer (some ⟨a, 0, none⟩), x.tmps.getD 1 undef, x.tmps.getD 2 undef, x.tmps.getD 3 undef, .pointer (some ⟨g, 0, none⟩), .pointer (some ⟨D, 0, none⟩), x.tmps.getD 6 undef, x.tmps.getD 7 undef, x.tmps.getD 8 undef, x.tmps.getD 9 undef, x.tmps.getD 10 undef, x.tmps.getD 11 undef, x.tmps.getD 12 undef, x.tmps.getD 13 undef, x.tmps.getD 14 undef, x.tmps.getD 15 undef, x.tmps.getD 16 undef, x.tmps.getD 17 undef, x.tmps.getD 18 undef, x.tmps.getD 19 undef, x.tmps.getD 20 undef, x.tmps.getD 21 undef, x.tmps.getD 22 undef, x.tmps.getD 23 undef, x.tmps.getD 24 undef, x.tmps.getD 25 undef, x.tmps.getD 26 undef, x.tmps.getD 27 undef, x.tmps.getD 28 undef, x.tmps.getD 29 undef, x.tmps.getD 30 undef, x.tmps.getD 31 undef, x.tmps.getD 32 undef, x.tmps.getD 33 undef, x.tmps.getD 34 undef, x.tmps.getD 35 undef, x.tmps.getD 36 undef, x.tmps.getD 37 undef, x.tmps.getD 38 undef, x.tmps.getD 39 undef, x.tmps.getD 40 undef, x.tmps.getD 41 undef, x.tmps.getD 42 undef, x.tmps.getD 43 undef, x.tmps.getD 44 undef, x.tmps.getD 45 undef, x.tmps.getD 46 undef, x.tmps.getD 47 undef, x.tmps.getD 48 undef, x.tmps.getD 49 undef, x.tmps.getD 50 undef, x.tmps.getD 51 undef, x.tmps.getD 52 undef, x.tmps.getD 53 undef, x.tmps.getD 54 undef, x.tmps.getD 55 undef, x.tmps.getD 56 undef, x.tmps.getD 57 undef, x.tmps.getD 58 undef, x.tmps.getD 59 undef, x.tmps.getD 60 undef, x.tmps.getD 61 undef, x.tmps.getD 62 undef, x.tmps.getD 63 undef, x.tmps.getD 64 undef, x.tmps.getD 65 undef, x.tmps.getD 66 undef, x.tmps.getD 67 undef, x.tmps.getD 68 undef, x.tmps.getD 69 undef, x.tmps.getD 70 undef, x.tmps.getD 71 undef, x.tmps.getD 72 undef, x.tmps.getD 73 undef, x.tmps.getD 74 undef, x.tmps.getD 75 undef, x.tmps.getD 76 undef, x.tmps.getD 77 undef, x.tmps.getD 78 undef, x.tmps.getD 79 undef, x.tmps.getD 80 undef, x.tmps.getD 81 undef, x.tmps.getD 82 undef, x.tmps.getD 83 undef, x.tmps.getD 84 undef, x.tmps.getD 85 undef, x.tmps.getD 86 undef, x.tmps.getD 87 undef, x.tmps.getD 88 undef, x.tmps.getD 89 undef, x.tmps.getD 90 undef, x.tmps.getD 91 undef, x.tmps.getD 92 undef, x.tmps.getD 93 undef, x.tmps.getD 94 undef, x.tmps.getD 95 undef, x.tmps.getD 96 undef, x.tmps.getD 97 undef, x.tmps.getD 98 undef, x.tmps.getD 99 undef, x.tmps.getD 100 undef, x.tmps.getD 101 undef, x.tmps.getD 102 undef, x.tmps.getD 103 undef, x.tmps.getD 104 undef, x.tmps.getD 105 undef, x.tmps.getD 106 undef, x.tmps.getD 107 undef, x.tmps.getD 108 undef, x.tmps.getD 109 undef, x.tmps.getD 110 undef, x.tmps.getD 111 undef, x.tmps.getD 112 undef, x.tmps.getD 113 undef, x.tmps.getD 114 undef, x.tmps.getD 115 undef, x.tmps.getD 116 undef, x.tmps.getD 117 undef, x.tmps.getD 118 undef, x.tmps.getD 119 undef, x.tmps.getD 120 undef, x.tmps.getD 121 undef, x.tmps.getD 122 undef, x.tmps.getD 123 undef, x.tmps.getD 124 undef, x.tmps.getD 125 undef, x.tmps.getD 126 undef, x.tmps.getD 127 undef, x.tmps.getD 128 undef, x.tmps.getD 129 undef, x.tmps.getD 130 undef, x.tmps.getD 131 undef, x.tmps.getD 132 undef, x.tmps.getD 133 undef, x.tmps.getD 134 undef, x.tmps.getD 135 undef, x.tmps.getD 136 undef, x.tmps.getD 137 undef, x.tmps.getD 138 undef, x.tmps.getD 139 undef, x.tmps.getD 140 undef, x.tmps.getD 141 undef, x.tmps.getD 142 undef, x.tmps.getD 143 undef, x.tmps.getD 144 undef, x.tmps.getD 145 undef, x.tmps.getD 146 undef, x.tmps.getD 147 undef, x.tmps.getD 148 undef, x.tmps.getD 149 undef, x.tmps.getD 150 undef, x.tmps.getD 151 undef, x.tmps.getD 152 undef, x.tmps.getD 153 undef, x.tmps.getD 154 undef, x.tmps.getD 155 undef, x.tmps.getD 156 undef, x.tmps.getD 157 undef, x.tmps.getD 158 undef, x.tmps.getD 159 undef, x.tmps.getD 160 undef, x.tmps.getD 161 undef, x.tmps.getD 162 undef, x.tmps.getD 163 undef, x.tmps.getD 164 undef, x.tmps.getD 165 undef, x.tmps.getD 166 undef, x.tmps.getD 167 undef, x.tmps.getD 168 undef, x.tmps.getD 169 undef, x.tmps.getD 170 undef, x.tmps.getD 171 undef, x.tmps.getD 172 undef, x.tmps.getD 173 undef, x.tmps.getD 174 undef, x.tmps.getD 175 undef, x.tmps.getD 176 undef] (by rw [← kv0, ← kv4, ← kv5]; rfl)
  rw [e]
  clear hx kv0 kv4 kv5
  clear e
  have gen : ∃ u : Nat → Value, ∀ i, x.tmps.getD i undef = u i := ⟨_, fun _ => rfl⟩
  obtain ⟨u, hu⟩ := gen
  simp only [hu]
  clear hu x
  have HK := Lib.hid hk
  clear hk
  have glt1 : g < W.heap.size + 1 := by omega
  have glt2 : g < W.heap.size + 1 + 1 := by omega
  have glt3 : g < W.heap.size + 1 + 1 + 1 := by omega
  have glt4 : g < W.heap.size + 1 + 1 + 1 + 1 := by omega
  have HG0 : Hid (G4 p g W W) := Lib.hid ⟨Below.refl _ _, glt, fr2, fr3, fr4, fr5⟩
  go_region_held3 (fun w' => (w').cell? ⟨g, 2, none⟩ = some (.pointer (some ⟨p, 0, none⟩)) ∧ (w').cell? ⟨g, 3, none⟩ = some (.int .i64 (-1)) ∧ (w').cell? ⟨g, 4, none⟩ = some (.pointer (some ⟨p, 0, none⟩)) ∧ (w').cell? ⟨g, 5, none⟩ = some (.int .i64 (-1)) ∧ Hid (G4 p g W w')) (first | exact g4_held (by repeat' (first | assumption | refine g4_drew ?_ | refine g4_set ?_ glt _ (by first | exact Nat.le_refl _ | omega) _ | refine g4_alloc ?_ _))) (first | (go_at_call 263; refine (after_0 p n L T V hD _ (hXW.below (by (repeat' (first | refine Below.setCell ?_ (by first | (simp; done) | (simp; omega) | omega | (simp [World.setCell]; omega)) _ | refine Below.alloc ?_ (by first | (simp; done) | (simp; omega) | omega | (simp [World.setCell]; omega)) _ | refine below_drewN' ?_ _ | refine Below.drew ?_ | exact Hid.out (by assumption) | exact Below.refl _ _))))).mono ?_; rintro e w9 ⟨rfl, hb⟩; have HB9 := bel_step (w := W) (by (repeat' (first | refine Below.setCell ?_ (by first | (simp; done) | (simp; omega) | omega | (simp [World.setCell]; omega)) _ | refine Below.alloc ?_ (by first | (simp; done) | (simp; omega) | omega | (simp [World.setCell]; omega)) _ | refine below_drewN' ?_ _ | refine Below.drew ?_ | exact Hid.out (by assumption) | exact Below.refl _ _))) hb; have HG9 := g4_below (p := p) (g := g) (W0 := W) (by repeat' (first | assumption | refine g4_drew ?_ | refine g4_set ?_ glt _ (by first | exact Nat.le_refl _ | omega) _ | refine g4_alloc ?_ _)) hb; have s9 := hb.size; (try simp at s9); try (have k0 := hb.cell (p := ⟨W.heap.size, 0, none⟩) (by first | (simp; done) | (simp; omega) | omega | (simp [World.setCell]; omega)); simp [go_sem, *] at k0); try (have kz0 := hb.frozen (p := ⟨W.heap.size, 0, none⟩) (by first | (simp; done) | (simp; omega) | omega | (simp [World.setCell]; omega)); simp [go_sem, *] at kz0); try (have k1 := hb.cell (p := ⟨W.heap.size, 1, none⟩) (by first | (simp; done) | (simp; omega) | omega | (simp [World.setCell]; omega)); simp [go_sem, *] at k1); try (have kz1 := hb.frozen (p := ⟨W.heap.size, 1, none⟩) (by first | (simp; done) | (simp; omega) | omega | (simp [World.setCell]; omega)); simp [go_sem, *] at kz1); clear hb))
  all_goals exact HK.out _ _ (Fx.cons (Fx.cons (Fx.cons (Fx.cons (Fx.mk0 _ rfl) 9 _ rfl) 5 _ rfl) 4 _ rfl) 0 _ rfl) (by (repeat' (first | refine Below.setCell ?_ (by first | (simp; done) | (simp; omega) | omega | (simp [World.setCell]; omega)) _ | refine Below.alloc ?_ (by first | (simp; done) | (simp; omega) | omega | (simp [World.setCell]; omega)) _ | refine below_drewN' ?_ _ | refine Below.drew ?_ | exact Hid.out (by assumption) | exact Below.refl _ _)))
end Go.Proofs.YtjelneeeijjpiaaGreatDoor
end
section
namespace Go.Proofs.YtjelneeeijjpiaaGreatDoor
open Go.RowKit
attribute [local go_sem] run_store_nilFunc run_store_func eqn_nil eqn_func
set_option maxRecDepth 100000 in
set_option maxHeartbeats 4000000 in
theorem rg19 {c : Code} (hc : regionOf (scopeBody Tryz.f201) 19 = some c) (a g c1 : Nat) (x : Act) (hx : Fx [(0, .pointer (some ⟨a, 0, none⟩)), (4, .pointer (some ⟨g, 0, none⟩))] x) (W : World) (aw4 : W.cell? ⟨a, 4, none⟩ = some (.slice (some ⟨g, 0, none⟩) 1 c1)) (awz4 : W.frozen? ⟨a, 4, none⟩ = false) (K : Act → World → Prop) (Q : Exit → Act → World → Prop) (hk : ∀ x' n, Fx [(0, .pointer (some ⟨a, 0, none⟩))] x' → K x' ((W.setCell ⟨a, 4, none⟩ (.slice (some ⟨g, 0, none⟩) 0 c1)).drewN n)) : c.wp Tryz.prog (Exit.then K Q) x W := by
  injection (show some c = some _ from hc.symm.trans rfl) with hc
  subst hc
  have kv0 := hx.at 0 (.pointer (some ⟨a, 0, none⟩)) (by simp)
  have kv4 := hx.at 4 (.pointer (some ⟨g, 0, none⟩)) (by simp)
  have e := hx.lit_of #[.pointer (some ⟨a, 0, none⟩), x.tmps.getD 1 undef, x.tmps.getD 2 undef, x.tmps.getD 3 undef, .pointer (some ⟨g, 0, none⟩), x.tmps.getD 5 undef, x.tmps.getD 6 undef, x.tmps.getD 7 undef, x.tmps.getD 8 undef, x.tmps.getD 9 undef, x.tmps.getD 10 undef, x.tmps.getD 11 undef, x.tmps.getD 12 undef, x.tmps.getD 13 undef, x.tmps.getD 14 undef, x.tmps.getD 15 undef, x.tmps.getD 16 undef, x.tmps.getD 17 undef, x.tmps.getD 18 undef, x.tmps.getD 19 undef, x.tmps.getD 20 undef, x.tmps.getD 21 undef, x.tmps.getD 22 undef, x.tmps.getD 23 undef, x.tmps.getD 24 undef, x.tmps.getD 25 undef, x.tmps.getD 26 undef, x.tmps.getD 27 undef, x.tmps.getD 28 undef, x.tmps.getD 29 undef, x.tmps.getD 30 undef, x.tmps.getD 31 undef, x.tmps.getD 32 undef, x.tmps.getD 33 undef, x.tmps.getD 34 undef, x.tmps.getD 35 undef, x.tmps.getD 36 undef, x.tmps.getD 37 undef, x.tmps.getD 38 undef, x.tmps.getD 39 undef, x.tmps.getD 40 undef, x.tmps.getD 41 undef, x.tmps.getD 42 undef, x.tmps.getD 43 undef, x.tmps.getD 44 undef, x.tmps.getD 45 undef, x.tmps.getD 46 undef, x.tmps.getD 47 undef, x.tmps.getD 48 undef, x.tmps.getD 49 undef, x.tmps.getD 50 undef, x.tmps.getD 51 undef, x.tmps.getD 52 undef, x.tmps.getD 53 undef, x.tmps.getD 54 undef, x.tmps.getD 55 undef, x.tmps.getD 56 undef, x.tmps.getD 57 undef, x.tmps.getD 58 undef, x.tmps.getD 59 undef, x.tmps.getD 60 undef, x.tmps.getD 61 undef, x.tmps.getD 62 undef, x.tmps.getD 63 undef, x.tmps.getD 64 undef, x.tmps.getD 65 undef, x.tmps.getD 66 undef, x.tmps.getD 67 undef, x.tmps.getD 68 undef, x.tmps.getD 69 undef, x.tmps.getD 70 undef, x.tmps.getD 71 undef, x.tmps.getD 72 undef, x.tmps.getD 73 undef, x.tmps.getD 74 undef, x.tmps.getD 75 undef, x.tmps.getD 76 undef, x.tmps.getD 77 undef, x.tmps.getD 78 undef, x.tmps.getD 79 undef, x.tmps.getD 80 undef, x.tmps.getD 81 undef, x.tmps.getD 82 undef, x.tmps.getD 83 undef, x.tmps.getD 84 undef, x.tmps.getD 85 undef, x.tmps.getD 86 undef, x.tmps.getD 87 undef, x.tmps.getD 88 undef, x.tmps.getD 89 undef, x.tmps.getD 90 undef, x.tmps.getD 91 undef, x.tmps.getD 92 undef, x.tmps.getD 93 undef, x.tmps.getD 94 undef, x.tmps.getD 95 undef, x.tmps.getD 96 undef, x.tmps.getD 97 undef, x.tmps.getD 98 undef, x.tmps.getD 99 undef, x.tmps.getD 100 undef, x.tmps.getD 101 undef, x.tmps.getD 102 undef, x.tmps.getD 103 undef, x.tmps.getD 104 undef, x.tmps.getD 105 undef, x.tmps.getD 106 undef, x.tmps.getD 107 undef, x.tmps.getD 108 undef, x.tmps.getD 109 undef, x.tmps.getD 110 undef, x.tmps.getD 111 undef, x.tmps.getD 112 undef, x.tmps.getD 113 undef, x.tmps.getD 114 undef, x.tmps.getD 115 undef, x.tmps.getD 116 undef, x.tmps.getD 117 undef, x.tmps.getD 118 undef, x.tmps.getD 119 undef, x.tmps.getD 120 undef, x.tmps.getD 121 undef, x.tmps.getD 122 undef, x.tmps.getD 123 undef, x.tmps.getD 124 undef, x.tmps.getD 125 undef, x.tmps.getD 126 undef, x.tmps.getD 127 undef, x.tmps.getD 128 undef, x.tmps.getD 129 undef, x.tmps.getD 130 undef, x.tmps.getD 131 undef, x.tmps.getD 132 undef, x.tmps.getD 133 undef, x.tmps.getD 134 undef, x.tmps.getD 135 undef, x.tmps.getD 136 undef, x.tmps.getD 137 undef, x.tmps.getD 138 undef, x.tmps.getD 139 undef, x.tmps.getD 140 undef, x.tmps.getD 141 undef, x.tmps.getD 142 undef, x.tmps.getD 143 undef, x.tmps.getD 144 undef, x.tmps.getD 145 undef, x.tmps.getD 146 undef, x.tmps.getD 147 undef, x.tmps.getD 148 undef, x.tmps.getD 149 undef, x.tmps.getD 150 undef, x.tmps.getD 151 undef, x.tmps.getD 152 undef, x.tmps.getD 153 undef, x.tmps.getD 154 undef, x.tmps.getD 155 undef, x.tmps.getD 156 undef, x.tmps.getD 157 undef, x.tmps.getD 158 undef, x.tmps.getD 159 undef, x.tmps.getD 160 undef, x.tmps.getD 161 undef, x.tmps.getD 162 undef, x.tmps.getD 163 undef, x.tmps.getD 164 undef, x.tmps.getD 165 undef, x.tmps.getD 166 undef, x.tmps.getD 167 undef, x.tmps.getD 168 undef, x.tmps.getD 169 undef, x.tmps.getD 170 undef, x.tmps.getD 171 undef, x.tmps.getD 172 undef, x.tmps.getD 173 undef, x.tmps.getD 174 undef, x.tmps.getD 175 undef, x.tmps.getD 176 undef] (by rw [← kv0, ← kv4]; rfl)
  rw [e]
  clear hx kv0 kv4
  clear e
  have gen : ∃ u : Nat → Value, ∀ i, x.tmps.getD i undef = u i := ⟨_, fun _ => rfl⟩
  obtain ⟨u, hu⟩ := gen
  simp only [hu]
  clear hu x
  have HK := Lib.hid hk
  clear hk
  go_region
  exact HK.out _ 1 (Fx.cons (Fx.mk0 _ rfl) 0 _ rfl)
end Go.Proofs.YtjelneeeijjpiaaGreatDoor
end
section
namespace Go.Proofs.YtjelneeeijjpiaaGreatDoor
open Go.RowKit
set_option maxRecDepth 100000 in
set_option maxHeartbeats 4000000 in
theorem stC2 (w0 : World) (a m gp cp gs cs gl cl : Nat) (mo : Int) (hmo : 1 ≤ mo) (p n L : Nat) (T V : ByteArray) (hD : Doc T V n L) (hX : Ix w0 p T n) (J : Nat → Act → World → Prop) (Q : Exit → Act → World → Prop) (x : Act) (W : World) (hx : Ac a x) (hS : StC w0 a m p gp cp gs cs gl cl mo W) (hJ : ∀ a' W', Ac a a' → StD w0 a m p mo W' → J 0 a' W') : ∃ rest, findLabel (scopeBody Tryz.f201) 0 = some (Code.skip.seq rest) ∧ rest.wp Tryz.prog (jumps J Q) x W := by
  obtain ⟨g, c, gf, cf, H, hcf5, g6, g5⟩ := hS
  have hx1 := hx.fx
  refine ⟨_, rfl, ?_⟩
  repeat refine wp_seq ?_
  refine rg2 rfl a g c x hx1 W H.hW.c7 H.hW.c4 _ _ ?_
  intro x2 hx2
  refine wp_cond_false (hx2.ev 30 (.bool false) (by simp)) ?_
  refine wp_skip ?_
  show Code.wp _ _ _ _ _
  repeat refine wp_seq ?_
  refine rg3 rfl a g c x2 (hx2.sub (by simp)) W H.hW.c4 _ _ ?_
  intro x3 n3 hx3
  have H3 : RS w0 a m p gp cp gs cs gl cl g mo (.slice (some ⟨g, 0, none⟩) 1 c) (.slice (some ⟨gf, 0, none⟩) 1 cf) 1 .nilFunc 1 (W.drewN n3) := H.below (below_drewN' (Below.refl _ _) _)
  have C3 : Cw p gf (W.drewN n3) := hcf5.below (below_drewN' (Below.refl _ _) _)
  generalize W.drewN n3 = W3 at H3 C3 ⊢
  clear H hcf5 hx2 hx hx1
  show Code.wp _ _ _ _ _
  repeat refine wp_seq ?_
  refine rg4 rfl a g m gs cs x3 hx3 W3 H3.hW.c0 H3.hM.c1 H3.hC.s.c0 H3.hC.s.c1 H3.hC.s.c2 H3.hF.c0 H3.hW.lt H3.hM.lt H3.hC.s.lt H3.hF.lt _ _ ?_
  intro x4 W4 hx4 b4 l4 d0 d2
  have H4 : RS w0 a m p gp cp gs cs gl cl g mo (.slice (some ⟨g, 0, none⟩) 1 c) (.slice (some ⟨gf, 0, none⟩) 1 cf) 1 .nilFunc 1 W4 := H3.below b4
  have C4 : Cw p gf W4 := C3.below b4
  have q4 : w0.heap.size ≤ W3.heap.size := H3.hb.size
  generalize W3.heap.size = D at hx4 l4 d0 d2 q4
  clear H3 C3 hx3 b4
  show Code.wp _ _ _ _ _
  repeat refine wp_seq ?_
  refine rg5f rfl a g D x4 hx4 W4 H4.hF.c1 d2 _ _ ?_
  intro x5 n5 hx5
  have b5 : Below W4.heap.size W4 (W4.drewN n5) := (below_drewN' (Below.refl _ _) _)
  have H5 : RS w0 a m p gp cp gs cs gl cl g mo (.slice (some ⟨g, 0, none⟩) 1 c) (.slice (some ⟨gf, 0, none⟩) 1 cf) 1 .nilFunc 1 (W4.drewN n5) := H4.below b5
  have C5 : Cw p gf (W4.drewN n5) := C4.below b5
  have e0 := (b5.cell (p := ⟨D, 0, none⟩) l4).trans d0
  have l5 : D < (W4.drewN n5).heap.size := Nat.lt_of_lt_of_le l4 b5.size
  generalize W4.drewN n5 = W5 at H5 C5 e0 l5 ⊢
  refine wp_cond_false (hx5.ev 62 (.bool false) (by simp)) ?_
  clear H4 C4 hx4 d0 d2 l4 b5
  refine wp_skip ?_
  show Code.wp _ _ _ _ _
  repeat (first | refine wp_seq ?_ | refine wp_block ?_)
  refine rg14 rfl a g D p n L T V hD x5 (hx5.sub (by simp)) W5 (hX.below H5.hb) H5.hF.c2 H5.hF.c3 H5.hF.c4 H5.hF.c5 H5.hF.lt _ _ ?_
  intro x6 W6 hx6 b6
  have H6 : RS w0 a m p gp cp gs cs gl cl g mo (.slice (some ⟨g, 0, none⟩) 1 c) (.slice (some ⟨gf, 0, none⟩) 1 cf) 1 .nilFunc 1 W6 := H5.below b6
  have C6 : Cw p gf W6 := C5.below b6
  have e1 := (b6.cell (p := ⟨D, 0, none⟩) l5).trans e0
  clear H5 C5 hx5 b6 e0 l5
  show Code.wp _ _ _ _ _
  repeat (first | refine wp_seq ?_ | refine wp_block ?_)
  refine rg15 rfl a g D x6 hx6 W6 e1 _ _ ?_
  intro x7 hx7
  refine wp_cond_false (hx7.ev 144 (.bool false) (by simp)) ?_
  refine wp_skip ?_
  show Code.wp _ _ _ _ _
  repeat (first | refine wp_seq ?_ | refine wp_block ?_)
  refine rg19 rfl a g c x7 (hx7.sub (by simp)) W6 H6.hW.c4 H6.hW.z4 _ _ ?_
  intro x8 n8 hx8
  show Code.wp _ _ _ _ _
  refine wp_goto ?_
  show J 0 _ _
  have B8 : Below w0.heap.size w0 ((W6.setCell ⟨a, 4, none⟩ (.slice (some ⟨g, 0, none⟩) 0 c)).drewN n8) := below_drewN' (Below.setCell H6.hb H6.Ba _) n8
  have W8 := (H6.hW.setS (.slice (some ⟨g, 0, none⟩) 0 c)).below (below_drewN' (Below.refl _ _) n8)
  have C8 : Cw p gf ((W6.setCell ⟨a, 4, none⟩ (.slice (some ⟨g, 0, none⟩) 0 c)).drewN n8) := (C6.set (a := ⟨a, 4, none⟩) (Ne.symm g5) (.slice (some ⟨g, 0, none⟩) 0 c)).below (below_drewN' (Below.refl _ _) n8)
  exact hJ _ _ ⟨hx8.1, hx8.2.1, hx8.2.2 (0, _) (by simp)⟩ ⟨g, c, gf, cf, W8, B8, C8, g6⟩
end Go.Proofs.YtjelneeeijjpiaaGreatDoor
end
section
namespace Go.Proofs.YtjelneeeijjpiaaGreatDoor
open Go.RowKit
attribute [local go_sem] run_store_nilFunc run_store_func eqn_nil eqn_func
set_option maxRecDepth 100000 in
set_option maxHeartbeats 4000000 in
theorem stD (w0 : World) (a m gp cp gs cs gl cl : Nat) (mo : Int) (hmo : 1 ≤ mo) (p n L : Nat) (T V : ByteArray) (hD : Doc T V n L) (hX : Ix w0 p T n) (J : Nat → Act → World → Prop) (Q : Exit → Act → World → Prop) (x : Act) (W : World) (hx : Ac a x) (hS : StD w0 a m p mo W) (hJ : ∀ ts W', RunP w0 m a p mo (.returned (.tuple #[])) W' → Q .ret { tmps := ts, defers := [] } W') : ∃ rest, findLabel (scopeBody Tryz.f201) 0 = some (Code.skip.seq rest) ∧ rest.wp Tryz.prog (jumps J Q) x W := by
  obtain ⟨u, rfl⟩ := hx.lit
  clear hx
  refine ⟨_, rfl, ?_⟩
  have HJ := Lib.hid hJ
  clear hJ
  obtain ⟨g, c, gf, cf, hW, hB, hC, hgf⟩ := hS
  have hR : Hid (RunP w0 m a p mo (.returned (.tuple #[])) W) := Lib.hid ⟨rfl, hB, _, gf, cf, hW, hC, hgf⟩
  have aw0 := hW.c0
  have aw1 := hW.c1
  have aw2 := hW.c2
  have aw3 := hW.c3
  have aw4 := hW.c4
  have aw5 := hW.c5
  have aw6 := hW.c6
  have aw7 := hW.c7
  have alt := hW.lt
  clear hB hC hgf hW
  go_wp2_with fail
  rw [jumps_ret]
  exact HJ.out _ _ hR.out
end Go.Proofs.YtjelneeeijjpiaaGreatDoor
end
section
namespace Go.Proofs.YtjelneeeijjpiaaGreatDoor
open Go.RowKit
attribute [local go_sem] run_store_nilFunc run_store_func eqn_nil eqn_func
set_option maxRecDepth 100000 in
set_option maxHeartbeats 2000000 in
theorem run_0 (p n L : Nat) (T V : ByteArray) (hD : Doc T V n L) (gp cp gs cs gl cl m a : Nat) (mo : Int) (hmo : 1 ≤ mo) (w0 : World) (hX : Ix w0 p T n) (ham : a ≠ m) (hag : gp ≠ a ∧ gs ≠ a ∧ gl ≠ a) (hmg : gp ≠ m ∧ gs ≠ m ∧ gl ≠ m) (hBa : w0.heap.size ≤ a) (hBm : w0.heap.size ≤ m) (w : World) (h0 : Below w0.heap.size w0 w) (hW : Wk m (.slice none 0 0) (.slice none 0 0) mo a w) (hM : Mc gp cp gs cs gl cl p 0 m w) (hC : Cd gp gs gl w) : Calls Tryz.prog 201 #[.pointer (some ⟨a, 0, none⟩), .agg #[.pointer (some ⟨p, 0, none⟩), .int .i64 (-1)]] w fun e w' => RunP w0 m a p mo e w' := by
  go_enter Tryz.func201, Tryz.ntmps201
  have alt := hW.lt
  have alt1 : a < w.heap.size + 1 := by omega
  have alt2 : a < w.heap.size + 1 + 1 := by omega
  have aw0 := hW.c0
  have aw1 := hW.c1
  have aw2 := hW.c2
  have aw3 := hW.c3
  have aw4 := hW.c4
  have aw5 := hW.c5
  have aw6 := hW.c6
  have aw7 := hW.c7
  have awz4 := hW.z4
  have awz5 := hW.z5
  have awz7 := hW.z7
  have mlt := hM.lt
  have mlt1 : m < w.heap.size + 1 := by omega
  have mlt2 : m < w.heap.size + 1 + 1 := by omega
  have m0 := hM.c0
  have m1 := hM.c1
  have m2 := hM.c2
  have m3 := hM.c3
  have m4 := hM.c4
  have m5 := hM.c5
  have m6 := hM.c6
  have mz6 := hM.z6
  go_wp2_with fail
  refine wp_scope_pass (fun n l x w' => l = 0 ∧ Ac a x ∧ (n = 3 ∧ StA w0 a m p gp cp gs cs gl cl mo w' ∨ n = 2 ∧ StB w0 a m p gp cp gs cs gl cl mo w' ∨ n = 1 ∧ StC w0 a m p gp cp gs cs gl cl mo w' ∨ n = 0 ∧ StD w0 a m p mo w')) 4 ?_ ?_
  · rintro q l x w' ⟨rfl, hx, ⟨rfl, hS⟩ | ⟨rfl, hS⟩ | ⟨rfl, hS⟩ | ⟨rfl, hS⟩⟩
    · exact stA2 w0 a m gp cp gs cs gl cl mo hmo p n L T V hD hX _ _ x w' hx hS (fun a' W' h1 h2 => ⟨2, by omega, rfl, h1, .inr (.inl ⟨rfl, h2⟩)⟩)
    · exact stB2 w0 a m gp cp gs cs gl cl mo hmo p n L T V hD hX _ _ x w' hx hS (fun a' W' h1 h2 => ⟨1, by omega, rfl, h1, .inr (.inr (.inl ⟨rfl, h2⟩))⟩)
    · exact stC2 w0 a m gp cp gs cs gl cl mo hmo p n L T V hD hX _ _ x w' hx hS (fun a' W' h1 h2 => ⟨0, by omega, rfl, h1, .inr (.inr (.inr ⟨rfl, h2⟩))⟩)
    · exact stD w0 a m gp cp gs cs gl cl mo hmo p n L T V hD hX _ _ x w' hx hS (fun ts W' h => bodyPost_ret (results_none rfl _ _ _) rfl h)
  · intro hin
    go_wp2_with fail
    apply wp_cut2 (fun g c W' => Hid (RS w0 a m p gp cp gs cs gl cl g mo (.slice (some ⟨g, 0, none⟩) 1 c) (.slice none 0 0) 0 (.nilFunc) 0 W'))
    · go_region_law ((first | (go_simp; go_at_call 260; refine (meet_0 gp cp gs cs gl cl p m a _ mo _ (hW.below (by (repeat' (first | refine Below.setCell ?_ (by first | (simp; done) | (simp; omega) | omega | (simp [World.setCell]; omega)) _ | refine Below.alloc ?_ (by first | (simp; done) | (simp; omega) | omega | (simp [World.setCell]; omega)) _ | refine below_drewN' ?_ _ | refine Below.drew ?_ | exact Hid.out (by assumption) | exact Below.refl _ _)))) (hM.below (by (repeat' (first | refine Below.setCell ?_ (by first | (simp; done) | (simp; omega) | omega | (simp [World.setCell]; omega)) _ | refine Below.alloc ?_ (by first | (simp; done) | (simp; omega) | omega | (simp [World.setCell]; omega)) _ | refine below_drewN' ?_ _ | refine Below.drew ?_ | exact Hid.out (by assumption) | exact Below.refl _ _)))) (hC.below (by (repeat' (first | refine Below.setCell ?_ (by first | (simp; done) | (simp; omega) | omega | (simp [World.setCell]; omega)) _ | refine Below.alloc ?_ (by first | (simp; done) | (simp; omega) | omega | (simp [World.setCell]; omega)) _ | refine below_drewN' ?_ _ | refine Below.drew ?_ | exact Hid.out (by assumption) | exact Below.refl _ _))))).mono ?_; rintro e w1 ⟨rfl, g, c, W1, rfl, hb, hg, hF⟩; have HB := bel_step (w := w) (by (repeat' (first | refine Below.setCell ?_ (by first | (simp; done) | (simp; omega) | omega | (simp [World.setCell]; omega)) _ | refine Below.alloc ?_ (by first | (simp; done) | (simp; omega) | omega | (simp [World.setCell]; omega)) _ | refine below_drewN' ?_ _ | refine Below.drew ?_ | exact Hid.out (by assumption) | exact Below.refl _ _))) hb; clear hb)))
      all_goals
        have l1 := hW.lt
        have l2 := hM.lt
        have l3 := hC.p.lt
        have l4 := hC.s.lt
        have l5 := hC.l.lt
        have l6 := h0.size
        simp at hg
        exact ⟨g, c, rfl, Lib.hid (RS.setS (st := .slice none 0 0) ⟨hW.below HB.out, hM.below HB.out, hC.below HB.out, hF, h0.trans (HB.out.mono h0.size), hBa, hBm, by omega, ham, by omega, by omega, hag.1, hmg.1, by omega, hag.2.1, hmg.2.1, by omega, hag.2.2, hmg.2.2, by omega⟩ _)⟩
    rintro g c W H0
    clear h0
    go_wp2_with fail
    go_step3
    rename_i hK
    exact hK _ _ <| hin 3 0 _ _ _ (by omega) rfl ⟨rfl, ⟨rfl, rfl, rfl⟩, .inl ⟨rfl, g, c, H0.out⟩⟩
end Go.Proofs.YtjelneeeijjpiaaGreatDoor
end
