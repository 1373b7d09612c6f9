/- TopText: walks and plain laws, part 31: lemmas on what the functions that the law comes to compute. -/
import Derived.Test.YtjelneeeijjpiaaGreatDoorG30
import Derived.Test.YtjelneeeijjpiaaGreatDoorG29
set_option linter.unusedVariables false
set_option linter.unusedSimpArgs false
section
namespace Go.Proofs.YtjelneeeijjpiaaGreatDoor
open Go.RowKit
theorem Fx.ev {l : List (Nat × Value)} {x : Act} (h : Fx l x) (i : Nat) (v : Value) (hm : (i, v) ∈ l) : x.eval (.tmp i) = v := by
  have := h.2.2 (i, v) hm
  simp [Act.eval, this]
theorem wp_then_self {P : Program} {c : Code} {Q : Exit → Act → World → Prop} {a : Act} {w : World} (h : c.wp P (Exit.then (fun a w => Q .normal a w) Q) a w) : c.wp P Q a w := by
  refine wp_mono h ?_
  intro e a w hq
  cases e <;> exact hq
theorem Fx.sub {l l' : List (Nat × Value)} {x : Act} (h : Fx l x) (hs : ∀ q ∈ l', q ∈ l) : Fx l' x := ⟨h.1, h.2.1, fun q hq => h.2.2 q (hs q hq)⟩
theorem Ac.fx {a : Nat} {x : Act} (h : Ac a x) : Fx [(0, .pointer (some ⟨a, 0, none⟩))] x := ⟨h.d, h.s, by intro q hq; simp at hq; subst hq; exact h.z⟩
set_option maxRecDepth 100000 in
set_option maxHeartbeats 4000000 in
theorem stB2 (w0 : World) (a m gp cp gs cs gl cl : Nat) (mo : Int) (hmo : 1 ≤ mo) (p n L : Nat) (T V : ByteArray) (hD : Doc T V n L) (hX : Ix w0 p T n) (J : Nat → Act → World → Prop) (Q : Exit → Act → World → Prop) (x : Act) (W : World) (hx : Ac a x) (hS : StB w0 a m p gp cp gs cs gl cl mo W) (hJ : ∀ a' W', Ac a a' → StC w0 a m p gp cp gs cs gl cl mo W' → J 0 a' W') : ∃ rest, findLabel (scopeBody Tryz.f201) 0 = some (Code.skip.seq rest) ∧ rest.wp Tryz.prog (jumps J Q) x W := by
  obtain ⟨g, c, gf, cf, bx, gc, H, ⟨hbx, bc⟩, hcf5, g6, g5⟩ := hS
  have hx1 := hx.fx
  have hBX : Bxx bx gc W := ⟨hbx, bc⟩
  refine ⟨_, rfl, ?_⟩
  repeat refine wp_seq ?_
  refine rg2 rfl a g c x hx1 W H.hW.c7 H.hW.c4 _ _ ?_
  intro x2 hx2
  refine wp_cond_false (hx2.ev 30 (.bool false) (by simp)) ?_
  refine wp_skip ?_
  show Code.wp _ _ _ _ _
  repeat refine wp_seq ?_
  refine rg3 rfl a g c x2 (hx2.sub (by simp)) W H.hW.c4 _ _ ?_
  intro x3 n3 hx3
  have H3 : RS w0 a m p gp cp gs cs gl cl g mo (.slice (some ⟨g, 0, none⟩) 1 c) (.slice (some ⟨gf, 0, none⟩) 1 cf) 0 (.func (.func 341) #[] #[.pointer (some ⟨bx, 0, none⟩)]) 1 (W.drewN n3) := H.below (below_drewN' (Below.refl _ _) _)
  have C3 : Cw p gf (W.drewN n3) := hcf5.below (below_drewN' (Below.refl _ _) _)
  have X3 : Bxx bx gc (W.drewN n3) := hBX.below (below_drewN' (Below.refl _ _) _)
  generalize W.drewN n3 = W3 at H3 C3 X3 ⊢
  clear H hcf5 hBX hx2 hx hx1 hbx bc
  show Code.wp _ _ _ _ _
  repeat refine wp_seq ?_
  refine rg4 rfl a g m gs cs x3 hx3 W3 H3.hW.c0 H3.hM.c1 H3.hC.s.c0 H3.hC.s.c1 H3.hC.s.c2 H3.hF.c0 H3.hW.lt H3.hM.lt H3.hC.s.lt H3.hF.lt _ _ ?_
  intro x4 W4 hx4 b4 l4 d0 d2
  have H4 : RS w0 a m p gp cp gs cs gl cl g mo (.slice (some ⟨g, 0, none⟩) 1 c) (.slice (some ⟨gf, 0, none⟩) 1 cf) 0 (.func (.func 341) #[] #[.pointer (some ⟨bx, 0, none⟩)]) 1 W4 := H3.below b4
  have C4 : Cw p gf W4 := C3.below b4
  have X4 : Bxx bx gc W4 := X3.below b4
  have q4 : w0.heap.size ≤ W3.heap.size := H3.hb.size
  generalize W3.heap.size = D at hx4 l4 d0 d2 q4
  clear H3 C3 X3 hx3 b4
  show Code.wp _ _ _ _ _
  repeat refine wp_seq ?_
  refine rg5t rfl a g D x4 hx4 W4 H4.hF.c1 d2 _ _ ?_
  intro x5 n5 hx5
  have H5 : RS w0 a m p gp cp gs cs gl cl g mo (.slice (some ⟨g, 0, none⟩) 1 c) (.slice (some ⟨gf, 0, none⟩) 1 cf) 0 (.func (.func 341) #[] #[.pointer (some ⟨bx, 0, none⟩)]) 1 (W4.drewN n5) := H4.below (below_drewN' (Below.refl _ _) _)
  have C5 : Cw p gf (W4.drewN n5) := C4.below (below_drewN' (Below.refl _ _) _)
  have X5 : Bxx bx gc (W4.drewN n5) := X4.below (below_drewN' (Below.refl _ _) _)
  generalize W4.drewN n5 = W5 at H5 C5 X5 ⊢
  refine wp_cond_true (hx5.ev 62 (.bool true) (by simp)) ?_
  clear H4 C4 X4 hx4 d0 d2 l4
  repeat refine wp_seq ?_
  refine rg6f rfl a g D _ _ _ x5 (hx5.sub (by simp)) W5 H5.hF.c6 _ _ ?_
  intro x6 hx6
  refine wp_cond_false (hx6.ev 67 (.bool false) (by simp)) ?_
  refine wp_skip ?_
  show Code.wp _ _ _ _ _
  repeat refine wp_seq ?_
  refine rg8b rfl a g bx gc x6 (hx6.sub (by simp)) W5 H5.hF.c6 H5.hF.lt X5.lt X5.c _ _ ?_
  intro x7 W7 hx7 b7
  have H7 : RS w0 a m p gp cp gs cs gl cl g mo (.slice (some ⟨g, 0, none⟩) 1 c) (.slice (some ⟨gf, 0, none⟩) 1 cf) 0 (.func (.func 341) #[] #[.pointer (some ⟨bx, 0, none⟩)]) 1 W7 := H5.below b7
  have C7 : Cw p gf W7 := C5.below b7
  clear H5 C5 X5 hx5 hx6 b7
  show Code.wp _ _ _ _ _
  repeat (first | refine wp_seq ?_ | refine wp_block ?_)
  refine rg11 rfl a g (.bool false) x7 (hx7.sub (by simp)) W7 H7.hW.c7 _ _ ?_
  intro x8 hx8
  refine wp_cond_false (hx8.ev 109 (.bool false) (by simp)) ?_
  repeat (first | refine wp_seq ?_ | refine wp_block ?_)
  refine rg12f rfl a g x8 (hx8.sub (by simp)) W7 _ _ ?_
  intro x9 hx9
  refine wp_cond_false (hx9.ev 115 (.bool false) (by simp)) ?_
  repeat (first | refine wp_seq ?_ | refine wp_block ?_)
  refine rg9 rfl a g x9 (hx9.sub (by simp)) W7 H7.hF.c1 H7.hF.z1 _ _ ?_
  intro x10 hx10
  show Code.wp _ _ _ _ _
  have H8 := H7.setL 1
  have C8 := C7.set (a := ⟨g, 1, none⟩) (Ne.symm g5.2.2) (.int .i64 1)
  repeat (first | refine wp_seq ?_ | refine wp_block ?_)
  refine wp_then_self ?_
  refine rg10 rfl a g _ x10 (hx10.sub (by simp)) _ H8.hF.c6 H8.hF.z6 _ _ ?_
  intro x11 hx11
  have H9 := H8.setN .nilFunc
  have C9 := C8.set (a := ⟨g, 6, none⟩) (Ne.symm g5.2.2) .nilFunc
  show Code.wp Tryz.prog (Code.goto 0) _ _ _
  refine wp_goto ?_
  show J 0 _ _
  exact hJ _ _ ⟨hx11.1, hx11.2.1, hx11.2.2 (0, _) (by simp)⟩ ⟨g, c, gf, cf, H9, C9, g6, g5.1⟩
end Go.Proofs.YtjelneeeijjpiaaGreatDoor
end
section
namespace Go.Proofs.YtjelneeeijjpiaaGreatDoor
open Go.RowKit
attribute [local go_sem] run_store_nilFunc run_store_func eqn_nil eqn_func
set_option maxRecDepth 100000 in
set_option maxHeartbeats 4000000 in
theorem rg7 {c : Code} (hc : regionOf (scopeBody Tryz.f201) 7 = some c) (w0 : World) (a m p gp cp gs cs gl cl g c1 : Nat) (mo : Int) (n L : Nat) (T V : ByteArray) (hD : Doc T V n L) (hX0 : Ix w0 p T n) (x : Act) (hx : Fx [(0, .pointer (some ⟨a, 0, none⟩)), (4, .pointer (some ⟨g, 0, none⟩))] x) (W : World) (H : RS w0 a m p gp cp gs cs gl cl g mo (.slice (some ⟨g, 0, none⟩) 1 c1) (.slice none 0 0) 0 .nilFunc 0 W) (K : Act → World → Prop) (Q : Exit → Act → World → Prop) (hk : ∀ x' W' bx gc, Fx [(0, .pointer (some ⟨a, 0, none⟩)), (4, .pointer (some ⟨g, 0, none⟩))] x' → RS w0 a m p gp cp gs cs gl cl g mo (.slice (some ⟨g, 0, none⟩) 1 c1) (.slice none 0 0) 0 (.func (.func 341) #[] #[.pointer (some ⟨bx, 0, none⟩)]) 0 W' → w0.heap.size ≤ bx → bx ≠ a → bx ≠ m → bx ≠ g → bx ≠ gp → bx ≠ gs → bx ≠ gl → bx < W'.heap.size → W'.cell? ⟨bx, 0, none⟩ = some (.slice (some ⟨gc, 0, none⟩) 1 1) → W'.frozen? ⟨bx, 0, none⟩ = false → Cw p gc W' → K x' W') : c.wp Tryz.prog (Exit.then K Q) x W := by
  injection (show some c = some _ from hc.symm.trans rfl) with hc
  subst hc
  have kv0 := hx.at 0 (.pointer (some ⟨a, 0, none⟩)) (by simp)
  have kv4 := hx.at 4 (.pointer (some ⟨g, 0, none⟩)) (by simp)
  have e := hx.lit_of #[.pointer (some ⟨a, 0, none⟩), x.tmps.getD 1 undef, x.tmps.getD 2 undef, x.tmps.getD 3 undef, .pointer (some ⟨g, 0, none⟩), x.tmps.getD 5 undef, x.tmps.getD 6 undef, x.tmps.getD 7 undef, x.tmps.getD 8 undef, x.tmps.getD 9 undef, x.tmps.getD 10 undef, x.tmps.getD 11 undef, x.tmps.getD 12 undef, x.tmps.getD 13 undef, x.tmps.getD 14 undef, x.tmps.getD 15 undef, x.tmps.getD 16 undef, x.tmps.getD 17 undef, x.tmps.getD 18 undef, x.tmps.getD 19 undef, x.tmps.getD 20 undef, x.tmps.getD 21 undef, x.tmps.getD 22 undef, x.tmps.getD 23 undef, x.tmps.getD 24 undef, x.tmps.getD 25 undef, x.tmps.getD 26 undef, x.tmps.getD 27 undef, x.tmps.getD 28 undef, x.tmps.getD 29 undef, x.tmps.getD 30 undef, x.tmps.getD 31 undef, x.tmps.getD 32 undef, x.tmps.getD 33 undef, x.tmps.getD 34 undef, x.tmps.getD 35 undef, x.tmps.getD 36 undef, x.tmps.getD 37 undef, x.tmps.getD 38 undef, x.tmps.getD 39 undef, x.tmps.getD 40 undef, x.tmps.getD 41 undef, x.tmps.getD 42 undef, x.tmps.getD 43 undef, x.tmps.getD 44 undef, x.tmps.getD 45 undef, x.tmps.getD 46 undef, x.tmps.getD 47 undef, x.tmps.getD 48 undef, x.tmps.getD 49 undef, x.tmps.getD 50 undef, x.tmps.getD 51 undef, x.tmps.getD 52 undef, x.tmps.getD 53 undef, x.tmps.getD 54 undef, x.tmps.getD 55 undef, x.tmps.getD 56 undef, x.tmps.getD 57 undef, x.tmps.getD 58 undef, x.tmps.getD 59 undef, x.tmps.getD 60 undef, x.tmps.getD 61 undef, x.tmps.getD 62 undef, x.tmps.getD 63 undef, x.tmps.getD 64 undef, x.tmps.getD 65 undef, x.tmps.getD 66 undef, x.tmps.getD 67 undef, x.tmps.getD 68 undef, x.tmps.getD 69 undef, x.tmps.getD 70 undef, x.tmps.getD 71 undef, x.tmps.getD 72 undef, x.tmps.getD 73 undef, x.tmps.getD 74 undef, x.tmps.getD 75 undef, x.tmps.getD 76 undef, x.tmps.getD 77 undef, x.tmps.getD 78 undef, x.tmps.getD 79 undef, x.tmps.getD 80 undef, x.tmps.getD 81 undef, x.tmps.getD 82 undef, x.tmps.getD 83 undef, x.tmps.getD 84 undef, x.tmps.getD 85 undef, x.tmps.getD 86 undef, x.tmps.getD 87 undef, x.tmps.getD 88 undef, x.tmps.getD 89 undef, x.tmps.getD 90 undef, x.tmps.getD 91 undef, x.tmps.getD 92 undef, x.tmps.getD 93 undef, x.tmps.getD 94 undef, x.tmps.getD 95 undef, x.tmps.getD 96 undef, x.tmps.getD 97 undef, x.tmps.getD 98 undef, x.tmps.getD 99 undef, x.tmps.getD 100 undef, x.tmps.getD 101 undef, x.tmps.getD 102 undef, x.tmps.getD 103 undef, x.tmps.getD 104 undef, x.tmps.getD 105 undef, x.tmps.getD 106 undef, x.tmps.getD 107 undef, x.tmps.getD 108 undef, x.tmps.getD 109 undef, x.tmps.getD 110 undef, x.tmps.getD 111 undef, x.tmps.getD 112 undef, x.tmps.getD 113 undef, x.tmps.getD 114 undef, x.tmps.getD 115 undef, x.tmps.getD 116 undef, x.tmps.getD 117 undef, x.tmps.getD 118 undef, x.tmps.getD 119 undef, x.tmps.getD 120 undef, x.tmps.getD 121 undef, x.tmps.getD 122 undef, x.tmps.getD 123 undef, x.tmps.getD 124 undef, x.tmps.getD 125 undef, x.tmps.getD 126 undef, x.tmps.getD 127 undef, x.tmps.getD 128 undef, x.tmps.getD 129 undef, x.tmps.getD 130 undef, x.tmps.getD 131 undef, x.tmps.getD 132 undef, x.tmps.getD 133 undef, x.tmps.getD 134 undef, x.tmps.getD 135 undef, x.tmps.getD 136 undef, x.tmps.getD 137 undef, x.tmps.getD 138 undef, x.tmps.getD 139 undef, x.tmps.getD 140 undef, x.tmps.getD 141 undef, x.tmps.getD 142 undef, x.tmps.getD 143 undef, x.tmps.getD 144 undef, x.tmps.getD 145 undef, x.tmps.getD 146 undef, x.tmps.getD 147 undef, x.tmps.getD 148 undef, x.tmps.getD 149 undef, x.tmps.getD 150 undef, x.tmps.getD 151 undef, x.tmps.getD 152 undef, x.tmps.getD 153 undef, x.tmps.getD 154 undef, x.tmps.getD 155 undef, x.tmps.getD 156 undef, x.tmps.getD 157 undef, x.tmps.getD 158 undef, x.tmps.getD 159 undef, x.tmps.getD 160 undef, x.tmps.getD 161 undef, x.tmps.getD 162 undef, x.tmps.getD 163 undef, x.tmps.getD 164 undef, x.tmps.getD 165 undef, x.tmps.getD 166 undef, x.tmps.getD 167 undef, x.tmps.getD 168 undef, x.tmps.getD 169 undef, x.tmps.getD 170 undef, x.tmps.getD 171 undef, x.tmps.getD 172 undef, x.tmps.getD 173 undef, x.tmps.getD 174 undef, x.tmps.getD 175 undef, x.tmps.getD 176 undef] (by rw [← kv0, ← kv4]; rfl)
  rw [e]
  clear hx kv0 kv4
  clear e
  have gen : ∃ u : Nat → Value, ∀ i, x.tmps.getD i undef = u i := ⟨_, fun _ => rfl⟩
  obtain ⟨u, hu⟩ := gen
  simp only [hu]
  clear hu x
  have HK := Lib.hid hk
  clear hk
  have hX := hX0
  have alt0 := H.hW.lt
  have alt1 : a < W.heap.size + 1 := by omega
  have alt2 : a < W.heap.size + 1 + 1 := by omega
  have mlt0 := H.hM.lt
  have mlt1 : m < W.heap.size + 1 := by omega
  have mlt2 : m < W.heap.size + 1 + 1 := by omega
  have gllt0 := H.hC.l.lt
  have gllt1 : gl < W.heap.size + 1 := by omega
  have gllt2 : gl < W.heap.size + 1 + 1 := by omega
  have glt0 := H.hF.lt
  have glt1 : g < W.heap.size + 1 := by omega
  have glt2 : g < W.heap.size + 1 + 1 := by omega
  have hX := hX.below H.hb
  have HX0 : Hid (∃ nx, RS w0 a m p gp cp gs cs gl cl g mo (.slice (some ⟨g, 0, none⟩) 1 c1) (.slice none 0 0) 0 nx 0 W) := Lib.hid ⟨_, H⟩
  go_region_held3 (fun w' => w'.cell? ⟨a, 0, none⟩ = some (.pointer (some ⟨m, 0, none⟩)) ∧ w'.cell? ⟨m, 2, none⟩ = some (.slice (some ⟨gl, 0, none⟩) 1 cl) ∧ w'.cell? ⟨g, 0, none⟩ = some (.int .i64 0) ∧ w'.cell? ⟨g, 1, none⟩ = some (.int .i64 0) ∧ w'.cell? ⟨g, 4, none⟩ = some (.pointer (some ⟨p, 0, none⟩)) ∧ w'.cell? ⟨g, 5, none⟩ = some (.int .i64 (-1)) ∧ w'.cell? ⟨gl, 0, none⟩ = some (.int .i64 2) ∧ w'.cell? ⟨gl, 1, none⟩ = some (.string ⟨#[]⟩) ∧ w'.cell? ⟨gl, 2, none⟩ = some (.int .i64 0) ∧ w'.cell? ⟨gl, 3, none⟩ = some (.int .i64 0) ∧ w'.cell? ⟨gl, 4, none⟩ = some (.int .i64 0) ∧ w'.cell? ⟨gl, 5, none⟩ = some (.bool false) ∧ w'.cell? ⟨gl, 6, none⟩ = some (.bool false) ∧ w'.cell? ⟨gl, 7, none⟩ = some (.int .i64 0) ∧ Hid (∃ nx, RS w0 a m p gp cp gs cs gl cl g mo (.slice (some ⟨g, 0, none⟩) 1 c1) (.slice none 0 0) 0 nx 0 w')) (first | exact told_held (by repeat' (first | assumption | refine rx_drew ?_ | refine rx_setN ?_ _ | refine rx_alloc ?_ _))) (first | (go_at_call 261; refine (told_0 p n L T V hD a _ (hX.below (by (repeat' (first | refine Below.setCell ?_ (by first | (simp; done) | (simp; omega) | omega | (simp [World.setCell]; omega)) _ | refine Below.alloc ?_ (by first | (simp; done) | (simp; omega) | omega | (simp [World.setCell]; omega)) _ | refine below_drewN' ?_ _ | refine Below.drew ?_ | exact Hid.out (by assumption) | exact Below.refl _ _))))).mono ?_; rintro e w9 ⟨w2, rfl, rfl, hb⟩; have H2 := Lib.hid (H.below (Hid.out (bel_step (w := W) (by (repeat' (first | refine Below.setCell ?_ (by first | (simp; done) | (simp; omega) | omega | (simp [World.setCell]; omega)) _ | refine Below.alloc ?_ (by first | (simp; done) | (simp; omega) | omega | (simp [World.setCell]; omega)) _ | refine below_drewN' ?_ _ | refine Below.drew ?_ | exact Hid.out (by assumption) | exact Below.refl _ _))) hb))); have HX2 : Hid (∃ nx, RS w0 a m p gp cp gs cs gl cl g mo (.slice (some ⟨g, 0, none⟩) 1 c1) (.slice none 0 0) 0 nx 0 w2) := Lib.hid ⟨_, H2.out⟩; have y6 := H2.out.hF.c6; have z6 := H2.out.hF.z6; have g2 := H2.out.hF.lt; have g3 : g < w2.heap.size + 1 := (by omega); have g4 : g < w2.heap.size + 1 + 1 := (by omega); have s2 : W.heap.size ≤ w2.heap.size := (by have := hb.size; simp at this; omega); clear hb))
  have H9 := (H2.out.setN (.func (.func 341) #[] #[.pointer (some ⟨w2.heap.size + 1, 0, none⟩)])).below (((Below.refl _ _).alloc (Nat.le_refl _) (.cells #[.pointer (some ⟨p, 0, none⟩), .int .i64 1] 139)).alloc (by simp) (.cells #[.slice (some ⟨w2.heap.size, 0, none⟩) 1 1] 194))
  have qa : w2.heap.size + 1 ≠ a := by have := H2.out.hW.lt; omega
  have qm : w2.heap.size + 1 ≠ m := by have := H2.out.hM.lt; omega
  have qg : w2.heap.size + 1 ≠ g := by have := H2.out.hF.lt; omega
  have qgp : w2.heap.size + 1 ≠ gp := by have := H2.out.hC.p.lt; omega
  have qgs : w2.heap.size + 1 ≠ gs := by have := H2.out.hC.s.lt; omega
  have qgl : w2.heap.size + 1 ≠ gl := by have := H2.out.hC.l.lt; omega
  have q0 : w0.heap.size ≤ w2.heap.size + 1 := by have := H2.out.hb.size; omega
  have hbx : w2.heap.size + 1 < (((w2.setCell ⟨g, 6, none⟩ (.func (.func 341) #[] #[.pointer (some ⟨w2.heap.size + 1, 0, none⟩)])).alloc (.cells #[.pointer (some ⟨p, 0, none⟩), .int .i64 1] 139)).alloc (.cells #[.slice (some ⟨w2.heap.size, 0, none⟩) 1 1] 194)).heap.size := by simp [World.setCell]
  have bc : (((w2.setCell ⟨g, 6, none⟩ (.func (.func 341) #[] #[.pointer (some ⟨w2.heap.size + 1, 0, none⟩)])).alloc (.cells #[.pointer (some ⟨p, 0, none⟩), .int .i64 1] 139)).alloc (.cells #[.slice (some ⟨w2.heap.size, 0, none⟩) 1 1] 194)).cell? ⟨w2.heap.size + 1, 0, none⟩ = some (.slice (some ⟨w2.heap.size, 0, none⟩) 1 1) := by simp [go_sem]
  have bz : (((w2.setCell ⟨g, 6, none⟩ (.func (.func 341) #[] #[.pointer (some ⟨w2.heap.size + 1, 0, none⟩)])).alloc (.cells #[.pointer (some ⟨p, 0, none⟩), .int .i64 1] 139)).alloc (.cells #[.slice (some ⟨w2.heap.size, 0, none⟩) 1 1] 194)).frozen? ⟨w2.heap.size + 1, 0, none⟩ = false := by simp [go_sem]
  have hcw : Hid (Cw p w2.heap.size (((w2.setCell ⟨g, 6, none⟩ (.func (.func 341) #[] #[.pointer (some ⟨w2.heap.size + 1, 0, none⟩)])).alloc (.cells #[.pointer (some ⟨p, 0, none⟩), .int .i64 1] 139)).alloc (.cells #[.slice (some ⟨w2.heap.size, 0, none⟩) 1 1] 194))) := Lib.hid ⟨by simp [World.setCell]; omega, by simp [go_sem], by simp [go_sem]⟩
  clear H HX0 H2 y6 z6 g2 g3 g4 s2
  generalize hWg : (((w2.setCell ⟨g, 6, none⟩ (.func (.func 341) #[] #[.pointer (some ⟨w2.heap.size + 1, 0, none⟩)])).alloc (.cells #[.pointer (some ⟨p, 0, none⟩), .int .i64 1] 139)).alloc (.cells #[.slice (some ⟨w2.heap.size, 0, none⟩) 1 1] 194)) = W2 at H9 hbx bc bz hcw ⊢
  clear hWg
  generalize hBX : w2.heap.size + 1 = bx at H9 qa qm qg qgp qgs qgl q0 hbx bc bz ⊢
  generalize hGC : w2.heap.size = gc at hcw bc ⊢
  clear hBX hGC
  exact HK.out _ _ bx gc (Fx.cons (Fx.cons (Fx.mk0 _ rfl) 4 _ rfl) 0 _ rfl) H9 q0 qa qm qg qgp qgs qgl hbx bc bz hcw.out
end Go.Proofs.YtjelneeeijjpiaaGreatDoor
end
section
namespace Go.Proofs.YtjelneeeijjpiaaGreatDoor
open Go.RowKit
attribute [local go_sem] run_store_nilFunc run_store_func eqn_nil eqn_func
set_option maxRecDepth 100000 in
set_option maxHeartbeats 4000000 in
theorem rg8a {c : Code} (hc : regionOf (scopeBody Tryz.f201) 8 = some c) (a g p bx gc : Nat) (x : Act) (hx : Fx [(0, .pointer (some ⟨a, 0, none⟩)), (4, .pointer (some ⟨g, 0, none⟩))] x) (W : World) (fr6 : W.cell? ⟨g, 6, none⟩ = some (.func (.func 341) #[] #[.pointer (some ⟨bx, 0, none⟩)])) (glt : g < W.heap.size) (hbx : bx < W.heap.size) (bc : W.cell? ⟨bx, 0, none⟩ = some (.slice (some ⟨gc, 0, none⟩) 1 1)) (bz : W.frozen? ⟨bx, 0, none⟩ = false) (hcw : Cw p gc W) (K : Act → World → Prop) (Q : Exit → Act → World → Prop) (hk : ∀ x' w3, Fx [(0, .pointer (some ⟨a, 0, none⟩)), (4, .pointer (some ⟨g, 0, none⟩)), (6, .pointer (some ⟨w3.heap.size, 0, none⟩)), (7, .bool true)] x' → Below W.heap.size (W.setCell ⟨bx, 0, none⟩ (.slice (some ⟨gc, 0, none⟩) 0 0)) w3 → K x' (w3.alloc (.cells #[.pointer (some ⟨p, 0, none⟩), .int .i64 1] 139))) : c.wp Tryz.prog (Exit.then K Q) x W := by
  injection (show some c = some _ from hc.symm.trans rfl) with hc
  subst hc
  have kv0 := hx.at 0 (.pointer (some ⟨a, 0, none⟩)) (by simp)
  have kv4 := hx.at 4 (.pointer (some ⟨g, 0, none⟩)) (by simp)
  have e := hx.lit_of #[.pointer (some ⟨a, 0, none⟩), x.tmps.getD 1 undef, x.tmps.getD 2 undef, x.tmps.getD 3 undef, .pointer (some ⟨g, 0, none⟩), x.tmps.getD 5 undef, x.tmps.getD 6 undef, x.tmps.getD 7 undef, x.tmps.getD 8 undef, x.tmps.getD 9 undef, x.tmps.getD 10 undef, x.tmps.getD 11 undef, x.tmps.getD 12 undef, x.tmps.getD 13 undef, x.tmps.getD 14 undef, x.tmps.getD 15 undef, x.tmps.getD 16 undef, x.tmps.getD 17 undef, x.tmps.getD 18 undef, x.tmps.getD 19 undef, x.tmps.getD 20 undef, x.tmps.getD 21 undef, x.tmps.getD 22 undef, x.tmps.getD 23 undef, x.tmps.getD 24 undef, x.tmps.getD 25 undef, x.tmps.getD 26 undef, x.tmps.getD 27 undef, x.tmps.getD 28 undef, x.tmps.getD 29 undef, x.tmps.getD 30 undef, x.tmps.getD 31 undef, x.tmps.getD 32 undef, x.tmps.getD 33 undef, x.tmps.getD 34 undef, x.tmps.getD 35 undef, x.tmps.getD 36 undef, x.tmps.getD 37 undef, x.tmps.getD 38 undef, x.tmps.getD 39 undef, x.tmps.getD 40 undef, x.tmps.getD 41 undef, x.tmps.getD 42 undef, x.tmps.getD 43 undef, x.tmps.getD 44 undef, x.tmps.getD 45 undef, x.tmps.getD 46 undef, x.tmps.getD 47 undef, x.tmps.getD 48 undef, x.tmps.getD 49 undef, x.tmps.getD 50 undef, x.tmps.getD 51 undef, x.tmps.getD 52 undef, x.tmps.getD 53 undef, x.tmps.getD 54 undef, x.tmps.getD 55 undef, x.tmps.getD 56 undef, x.tmps.getD 57 undef, x.tmps.getD 58 undef, x.tmps.getD 59 undef, x.tmps.getD 60 undef, x.tmps.getD 61 undef, x.tmps.getD 62 undef, x.tmps.getD 63 undef, x.tmps.getD 64 undef, x.tmps.getD 65 undef, x.tmps.getD 66 undef, x.tmps.getD 67 undef, x.tmps.getD 68 undef, x.tmps.getD 69 undef, x.tmps.getD 70 undef, x.tmps.getD 71 undef, x.tmps.getD 72 undef, x.tmps.getD 73 undef, x.tmps.getD 74 undef, x.tmps.getD 75 undef, x.tmps.getD 76 undef, x.tmps.getD 77 undef, x.tmps.getD 78 undef, x.tmps.getD 79 undef, x.tmps.getD 80 undef, x.tmps.getD 81 undef, x.tmps.getD 82 undef, x.tmps.getD 83 undef, x.tmps.getD 84 undef, x.tmps.getD 85 undef, x.tmps.getD 86 undef, x.tmps.getD 87 undef, x.tmps.getD 88 undef, x.tmps.getD 89 undef, x.tmps.getD 90 undef, x.tmps.getD 91 undef, x.tmps.getD 92 undef, x.tmps.getD 93 undef, x.tmps.getD 94 undef, x.tmps.getD 95 undef, x.tmps.getD 96 undef, x.tmps.getD 97 undef, x.tmps.getD 98 undef, x.tmps.getD 99 undef, x.tmps.getD 100 undef, x.tmps.getD 101 undef, x.tmps.getD 102 undef, x.tmps.getD 103 undef, x.tmps.getD 104 undef, x.tmps.getD 105 undef, x.tmps.getD 106 undef, x.tmps.getD 107 undef, x.tmps.getD 108 undef, x.tmps.getD 109 undef, x.tmps.getD 110 undef, x.tmps.getD 111 undef, x.tmps.getD 112 undef, x.tmps.getD 113 undef, x.tmps.getD 114 undef, x.tmps.getD 115 undef, x.tmps.getD 116 undef, x.tmps.getD 117 undef, x.tmps.getD 118 undef, x.tmps.getD 119 undef, x.tmps.getD 120 undef, x.tmps.getD 121 undef, x.tmps.getD 122 undef, x.tmps.getD 123 undef, x.tmps.getD 124 undef, x.tmps.getD 125 undef, x.tmps.getD 126 undef, x.tmps.getD 127 undef, x.tmps.getD 128 undef, x.tmps.getD 129 undef, x.tmps.getD 130 undef, x.tmps.getD 131 undef, x.tmps.getD 132 undef, x.tmps.getD 133 undef, x.tmps.getD 134 undef, x.tmps.getD 135 undef, x.tmps.getD 136 undef, x.tmps.getD 137 undef, x.tmps.getD 138 undef, x.tmps.getD 139 undef, x.tmps.getD 140 undef, x.tmps.getD 141 undef, x.tmps.getD 142 undef, x.tmps.getD 143 undef, x.tmps.getD 144 undef, x.tmps.getD 145 undef, x.tmps.getD 146 undef, x.tmps.getD 147 undef, x.tmps.getD 148 undef, x.tmps.getD 149 undef, x.tmps.getD 150 undef, x.tmps.getD 151 undef, x.tmps.getD 152 undef, x.tmps.getD 153 undef, x.tmps.getD 154 undef, x.tmps.getD 155 undef, x.tmps.getD 156 undef, x.tmps.getD 157 undef, x.tmps.getD 158 undef, x.tmps.getD 159 undef, x.tmps.getD 160 undef, x.tmps.getD 161 undef, x.tmps.getD 162 undef, x.tmps.getD 163 undef, x.tmps.getD 164 undef, x.tmps.getD 165 undef, x.tmps.getD 166 undef, x.tmps.getD 167 undef, x.tmps.getD 168 undef, x.tmps.getD 169 undef, x.tmps.getD 170 undef, x.tmps.getD 171 undef, x.tmps.getD 172 undef, x.tmps.getD 173 undef, x.tmps.getD 174 undef, x.tmps.getD 175 undef, x.tmps.getD 176 undef] (by rw [← kv0, ← kv4]; rfl)
  rw [e]
  clear hx kv0 kv4
  clear e
  have gen : ∃ u : Nat → Value, ∀ i, x.tmps.getD i undef = u i := ⟨_, fun _ => rfl⟩
  obtain ⟨u, hu⟩ := gen
  simp only [hu]
  clear hu x
  have HK := Lib.hid hk
  clear hk
  go_wp2_with fail
  refine (lst_1 p bx gc _ hbx bc bz hcw).mono ?_; rintro e w3 ⟨rfl, hb3⟩
  have HB3 := Lib.hid hb3
  clear hb3
  go_wp2_with fail
  exact HK.out _ w3 (Fx.cons (Fx.cons (Fx.cons (Fx.cons (Fx.mk0 _ rfl) 7 _ rfl) 6 _ rfl) 4 _ rfl) 0 _ rfl) HB3.out
end Go.Proofs.YtjelneeeijjpiaaGreatDoor
end
section
namespace Go.Proofs.YtjelneeeijjpiaaGreatDoor
open Go.RowKit
attribute [local go_sem] run_store_nilFunc run_store_func eqn_nil eqn_func
set_option maxRecDepth 100000 in
set_option maxHeartbeats 4000000 in
theorem rg13 {c : Code} (hc : regionOf (scopeBody Tryz.f201) 13 = some c) (w0 : World) (a m p gp cp gs cs gl cl g c1 e bx gc : Nat) (mo : Int) (hmo : 1 ≤ mo) (x : Act) (hx : Fx [(0, .pointer (some ⟨a, 0, none⟩)), (4, .pointer (some ⟨g, 0, none⟩)), (6, .pointer (some ⟨e, 0, none⟩))] x) (W : World) (H : RS w0 a m p gp cp gs cs gl cl g mo (.slice (some ⟨g, 0, none⟩) 1 c1) (.slice none 0 0) 0 (.func (.func 341) #[] #[.pointer (some ⟨bx, 0, none⟩)]) 0 W) (elt : e < W.heap.size) (ec0 : W.cell? ⟨e, 0, none⟩ = some (.pointer (some ⟨p, 0, none⟩))) (ec1 : W.cell? ⟨e, 1, none⟩ = some (.int .i64 1)) (em : e ≠ m) (ea : e ≠ a) (hbx : bx < W.heap.size) (bc : W.cell? ⟨bx, 0, none⟩ = some (.slice (some ⟨gc, 0, none⟩) 0 0)) (qm : bx ≠ m) (qa : bx ≠ a) (K : Act → World → Prop) (Q : Exit → Act → World → Prop) (hk : ∀ x' W' gf cf, Fx [(0, .pointer (some ⟨a, 0, none⟩)), (4, .pointer (some ⟨g, 0, none⟩))] x' → RS w0 a m p gp cp gs cs gl cl g mo (.slice (some ⟨g, 0, none⟩) 1 c1) (.slice (some ⟨gf, 0, none⟩) 1 cf) 0 (.func (.func 341) #[] #[.pointer (some ⟨bx, 0, none⟩)]) 1 W' → Bxx bx gc W' → Cw p gf W' → w0.heap.size ≤ gf → gf ≠ a → gf ≠ m → gf ≠ g → K x' W') : c.wp Tryz.prog (Exit.then K Q) x W := by
  injection (show some c = some _ from hc.symm.trans rfl) with hc
  subst hc
  have kv0 := hx.at 0 (.pointer (some ⟨a, 0, none⟩)) (by simp)
  have kv4 := hx.at 4 (.pointer (some ⟨g, 0, none⟩)) (by simp)
  have kv6 := hx.at 6 (.pointer (some ⟨e, 0, none⟩)) (by simp)
  have e := hx.lit_of #[.pointer (some ⟨a, 0, none⟩), x.tmps.getD 1 undef, x.tmps.getD 2 undef, x.tmps.getD 3 undef, .pointer (some ⟨g, 0, none⟩), x.tmps.getD 5 undef, .pointer (some ⟨e, 0, none⟩), x.tmps.getD 7 undef, x.tmps.getD 8 undef, x.tmps.getD 9 undef, x.tmps.getD 10 undef, x.tmps.getD 11 undef, x.tmps.getD 12 undef, x.tmps.getD 13 undef, x.tmps.getD 14 undef, x.tmps.getD 15 undef, x.tmps.getD 16 undef, x.tmps.getD 17 undef, x.tmps.getD 18 undef, x.tmps.getD 19 undef, x.tmps.getD 20 undef, x.tmps.getD 21 undef, x.tmps.getD 22 undef, x.tmps.getD 23 undef, x.tmps.getD 24 undef, x.tmps.getD 25 undef, x.tmps.getD 26 undef, x.tmps.getD 27 undef, x.tmps.getD 28 undef, x.tmps.getD 29 undef, x.tmps.getD 30 undef, x.tmps.getD 31 undef, x.tmps.getD 32 undef, x.tmps.getD 33 undef, x.tmps.getD 34 undef, x.tmps.getD 35 undef, x.tmps.getD 36 undef, x.tmps.getD 37 undef, x.tmps.getD 38 undef, x.tmps.getD 39 undef, x.tmps.getD 40 undef, x.tmps.getD 41 undef, x.tmps.getD 42 undef, x.tmps.getD 43 undef, x.tmps.getD 44 undef, x.tmps.getD 45 undef, x.tmps.getD 46 undef, x.tmps.getD 47 undef, x.tmps.getD 48 undef, x.tmps.getD 49 undef, x.tmps.getD 50 undef, x.tmps.getD 51 undef, x.tmps.getD 52 undef, x.tmps.getD 53 undef, x.tmps.getD 54 undef, x.tmps.getD 55 undef, x.tmps.getD 56 undef, x.tmps.getD 57 undef, x.tmps.getD 58 undef, x.tmps.getD 59 undef, x.tmps.getD 60 undef, x.tmps.getD 61 undef, x.tmps.getD 62 undef, x.tmps.getD 63 undef, x.tmps.getD 64 undef, x.tmps.getD 65 undef, x.tmps.getD 66 undef, x.tmps.getD 67 undef, x.tmps.getD 68 undef, x.tmps.getD 69 undef, x.tmps.getD 70 undef, x.tmps.getD 71 undef, x.tmps.getD 72 undef, x.tmps.getD 73 undef, x.tmps.getD 74 undef, x.tmps.getD 75 undef, x.tmps.getD 76 undef, x.tmps.getD 77 undef, x.tmps.getD 78 undef, x.tmps.getD 79 undef, x.tmps.getD 80 undef, x.tmps.getD 81 undef, x.tmps.getD 82 undef, x.tmps.getD 83 undef, x.tmps.getD 84 undef, x.tmps.getD 85 undef, x.tmps.getD 86 undef, x.tmps.getD 87 undef, x.tmps.getD 88 undef, x.tmps.getD 89 undef, x.tmps.getD 90 undef, x.tmps.getD 91 undef, x.tmps.getD 92 undef, x.tmps.getD 93 undef, x.tmps.getD 94 undef, x.tmps.getD 95 undef, x.tmps.getD 96 undef, x.tmps.getD 97 undef, x.tmps.getD 98 undef, x.tmps.getD 99 undef, x.tmps.getD 100 undef, x.tmps.getD 101 undef, x.tmps.getD 102 undef, x.tmps.getD 103 undef, x.tmps.getD 104 undef, x.tmps.getD 105 undef, x.tmps.getD 106 undef, x.tmps.getD 107 undef, x.tmps.getD 108 undef, x.tmps.getD 109 undef, x.tmps.getD 110 undef, x.tmps.getD 111 undef, x.tmps.getD 112 undef, x.tmps.getD 113 undef, x.tmps.getD 114 undef, x.tmps.getD 115 undef, x.tmps.getD 116 undef, x.tmps.getD 117 undef, x.tmps.getD 118 undef, x.tmps.getD 119 undef, x.tmps.getD 120 undef, x.tmps.getD 121 undef, x.tmps.getD 122 undef, x.tmps.getD 123 undef, x.tmps.getD 124 undef, x.tmps.getD 125 undef, x.tmps.getD 126 undef, x.tmps.getD 127 undef, x.tmps.getD 128 undef, x.tmps.getD 129 undef, x.tmps.getD 130 undef, x.tmps.getD 131 undef, x.tmps.getD 132 undef, x.tmps.getD 133 undef, x.tmps.getD 134 undef, x.tmps.getD 135 undef, x.tmps.getD 136 undef, x.tmps.getD 137 undef, x.tmps.getD 138 undef, x.tmps.getD 139 undef, x.tmps.getD 140 undef, x.tmps.getD 141 undef, x.tmps.getD 142 undef, x.tmps.getD 143 undef, x.tmps.getD 144 undef, x.tmps.getD 145 undef, x.tmps.getD 146 undef, x.tmps.getD 147 undef, x.tmps.getD 148 undef, x.tmps.getD 149 undef, x.tmps.getD 150 undef, x.tmps.getD 151 undef, x.tmps.getD 152 undef, x.tmps.getD 153 undef, x.tmps.getD 154 undef, x.tmps.getD 155 undef, x.tmps.getD 156 undef, x.tmps.getD 157 undef, x.tmps.getD 158 undef, x.tmps.getD 159 undef, x.tmps.getD 160 undef, x.tmps.getD 161 undef, x.tmps.getD 162 undef, x.tmps.getD 163 undef, x.tmps.getD 164 undef, x.tmps.getD 165 undef, x.tmps.getD 166 undef, x.tmps.getD 167 undef, x.tmps.getD 168 undef, x.tmps.getD 169 undef, x.tmps.getD 170 undef, x.tmps.getD 171 undef, x.tmps.getD 172 undef, x.tmps.getD 173 undef, x.tmps.getD 174 undef, x.tmps.getD 175 undef, x.tmps.getD 176 undef] (by rw [← kv0, ← kv4, ← kv6]; rfl)
  rw [e]
  clear hx kv0 kv4 kv6
  clear e
  have gen : ∃ u : Nat → Value, ∀ i, x.tmps.getD i undef = u i := ⟨_, fun _ => rfl⟩
  obtain ⟨u, hu⟩ := gen
  simp only [hu]
  clear hu x
  have HK := Lib.hid hk
  clear hk
  have ham := H.am
  have w0le := H.hb.size
  have alt0 := H.hW.lt
  have alt1 : a < W.heap.size + 1 := by omega
  have alt2 : a < W.heap.size + 1 + 1 := by omega
  have mlt0 := H.hM.lt
  have mlt1 : m < W.heap.size + 1 := by omega
  have mlt2 : m < W.heap.size + 1 + 1 := by omega
  have gllt0 := H.hC.l.lt
  have gllt1 : gl < W.heap.size + 1 := by omega
  have gllt2 : gl < W.heap.size + 1 + 1 := by omega
  have glt0 := H.hF.lt
  have glt1 : g < W.heap.size + 1 := by omega
  have glt2 : g < W.heap.size + 1 + 1 := by omega
  have elt1 : e < W.heap.size + 1 := by omega
  have elt2 : e < W.heap.size + 1 + 1 := by omega
  have HY0 : Hid (∃ fd nx k, RS w0 a m p gp cp gs cs gl cl g mo (.slice (some ⟨g, 0, none⟩) 1 c1) fd 0 nx k (W) ∧ e < (W).heap.size ∧ (W).cell? ⟨e, 0, none⟩ = some (.pointer (some ⟨p, 0, none⟩)) ∧ (W).cell? ⟨e, 1, none⟩ = some (.int .i64 1)) := Lib.hid ⟨_, _, _, H, elt, ec0, ec1⟩
  have QQ : Hid ((bx ≠ m ∧ bx ≠ a) ∧ (e ≠ m ∧ e ≠ a) ∧ a ≠ m) := Lib.hid ⟨⟨qm, qa⟩, ⟨em, ea⟩, ham⟩
  clear qm qa em ea ham
  go_region_held3 (fun w' => w'.cell? ⟨g, 0, none⟩ = some (.int .i64 0) ∧ w'.cell? ⟨g, 1, none⟩ = some (.int .i64 0) ∧ w'.cell? ⟨e, 0, none⟩ = some (.pointer (some ⟨p, 0, none⟩)) ∧ w'.cell? ⟨e, 1, none⟩ = some (.int .i64 1) ∧ Hid (∃ fd nx k, RS w0 a m p gp cp gs cs gl cl g mo (.slice (some ⟨g, 0, none⟩) 1 c1) fd 0 nx k (w') ∧ e < (w').heap.size ∧ (w').cell? ⟨e, 0, none⟩ = some (.pointer (some ⟨p, 0, none⟩)) ∧ (w').cell? ⟨e, 1, none⟩ = some (.int .i64 1))) (first | exact child_held (by repeat' (first | assumption | refine ry_drew ?_ | refine ry_alloc ?_ _))) (first | (go_at_call 262; refine (child_0 gp cp gs cs gl cl p m a _ mo hmo QQ.out.2.2 _ (H.hW.below (by (repeat' (first | refine Below.setCell ?_ (by first | (simp; done) | (simp; omega) | omega | (simp [World.setCell]; omega)) _ | refine Below.alloc ?_ (by first | (simp; done) | (simp; omega) | omega | (simp [World.setCell]; omega)) _ | refine below_drewN' ?_ _ | refine Below.drew ?_ | exact Hid.out (by assumption) | exact Below.refl _ _)))) (H.hM.below (by (repeat' (first | refine Below.setCell ?_ (by first | (simp; done) | (simp; omega) | omega | (simp [World.setCell]; omega)) _ | refine Below.alloc ?_ (by first | (simp; done) | (simp; omega) | omega | (simp [World.setCell]; omega)) _ | refine below_drewN' ?_ _ | refine Below.drew ?_ | exact Hid.out (by assumption) | exact Below.refl _ _)))) (H.hC.below (by (repeat' (first | refine Below.setCell ?_ (by first | (simp; done) | (simp; omega) | omega | (simp [World.setCell]; omega)) _ | refine Below.alloc ?_ (by first | (simp; done) | (simp; omega) | omega | (simp [World.setCell]; omega)) _ | refine below_drewN' ?_ _ | refine Below.drew ?_ | exact Hid.out (by assumption) | exact Below.refl _ _))))).mono ?_; rintro en w9 ⟨rfl, gf, cf, w4, rfl, hb, hgf, hcf⟩; have K4 := keep_bx (a := a) (y := (.slice (some ⟨gf, 0, none⟩) 1 cf)) bc hbx (by (repeat' (first | refine Below.setCell ?_ (by first | (simp; done) | (simp; omega) | omega | (simp [World.setCell]; omega)) _ | refine Below.alloc ?_ (by first | (simp; done) | (simp; omega) | omega | (simp [World.setCell]; omega)) _ | refine below_drewN' ?_ _ | refine Below.drew ?_ | exact Hid.out (by assumption) | exact Below.refl _ _))) hb QQ.out.1.1 QQ.out.1.2; have H4 := Lib.hid ((H.belowK (by (repeat' (first | refine Below.setCell ?_ (by first | (simp; done) | (simp; omega) | omega | (simp [World.setCell]; omega)) _ | refine Below.alloc ?_ (by first | (simp; done) | (simp; omega) | omega | (simp [World.setCell]; omega)) _ | refine below_drewN' ?_ _ | refine Below.drew ?_ | exact Hid.out (by assumption) | exact Below.refl _ _))) hb).setF (.slice (some ⟨gf, 0, none⟩) 1 cf)); have D4 := keep_bx (a := a) (y := (.slice (some ⟨gf, 0, none⟩) 1 cf)) ec0 elt (by (repeat' (first | refine Below.setCell ?_ (by first | (simp; done) | (simp; omega) | omega | (simp [World.setCell]; omega)) _ | refine Below.alloc ?_ (by first | (simp; done) | (simp; omega) | omega | (simp [World.setCell]; omega)) _ | refine below_drewN' ?_ _ | refine Below.drew ?_ | exact Hid.out (by assumption) | exact Below.refl _ _))) hb QQ.out.2.1.1 QQ.out.2.1.2; have D5 := keep_bx (a := a) (y := (.slice (some ⟨gf, 0, none⟩) 1 cf)) ec1 elt (by (repeat' (first | refine Below.setCell ?_ (by first | (simp; done) | (simp; omega) | omega | (simp [World.setCell]; omega)) _ | refine Below.alloc ?_ (by first | (simp; done) | (simp; omega) | omega | (simp [World.setCell]; omega)) _ | refine below_drewN' ?_ _ | refine Below.drew ?_ | exact Hid.out (by assumption) | exact Below.refl _ _))) hb QQ.out.2.1.1 QQ.out.2.1.2; have HY4 : Hid (∃ fd nx k, RS w0 a m p gp cp gs cs gl cl g mo (.slice (some ⟨g, 0, none⟩) 1 c1) fd 0 nx k (w4.setCell ⟨a, 5, none⟩ (.slice (some ⟨gf, 0, none⟩) 1 cf)) ∧ e < (w4.setCell ⟨a, 5, none⟩ (.slice (some ⟨gf, 0, none⟩) 1 cf)).heap.size ∧ (w4.setCell ⟨a, 5, none⟩ (.slice (some ⟨gf, 0, none⟩) 1 cf)).cell? ⟨e, 0, none⟩ = some (.pointer (some ⟨p, 0, none⟩)) ∧ (w4.setCell ⟨a, 5, none⟩ (.slice (some ⟨gf, 0, none⟩) 1 cf)).cell? ⟨e, 1, none⟩ = some (.int .i64 1)) := Lib.hid ⟨_, _, _, H4.out, by rw [setCell_size]; exact D4.2, D4.1, D5.1⟩; clear hb D4 D5))
  simp at hgf
  exact HK.out _ _ gf cf (Fx.cons (Fx.cons (Fx.mk0 _ rfl) 4 _ rfl) 0 _ rfl) H4.out ⟨by rw [setCell_size]; exact K4.2, K4.1⟩ (hcf.set (a := ⟨a, 5, none⟩) (show a ≠ gf by omega) (.slice (some ⟨gf, 0, none⟩) 1 cf)) (by omega) (by omega) (by omega) (by omega)
end Go.Proofs.YtjelneeeijjpiaaGreatDoor
end
