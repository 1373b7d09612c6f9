/- TopText: walks and plain laws, part 35: lemmas on what the functions that the law comes to compute. -/
import Derived.Test.YtjelneeeijjpiaaGreatDoorG34
set_option linter.unusedVariables false
set_option linter.unusedSimpArgs false
section
namespace Go.Proofs.YtjelneeeijjpiaaGreatDoor
open Go.RowKit
theorem LeafP.below {w w' : World} {p : Nat} {C : ByteArray} (h : LeafP w p C) (hb : Below w.heap.size w w') : LeafP w' p C := fun W hW => h W (hb.trans (hW.mono hb.size))
def Hit (L k : Nat) (C : ByteArray) (g : Nat) (w : World) : Prop := g < w.heap.size ∧ w.cell? ⟨g, 0, none⟩ = some (.string ⟨#[36, 91, 48, 93]⟩) ∧ w.cell? ⟨g, 1, none⟩ = some (.int .i64 1) ∧ w.cell? ⟨g, 2, none⟩ = some (.int .i64 (L : Nat)) ∧ w.cell? ⟨g, 3, none⟩ = some (.int .i64 (k : Nat)) ∧ w.cell? ⟨g, 4, none⟩ = some (.string C)
theorem Hit.below {w w' : World} {L k g : Nat} {C : ByteArray} (h : Hit L k C g w) (hb : Below w.heap.size w w') : Hit L k C g w' := by
  obtain ⟨a, b, c, d, e, f⟩ := h
  exact ⟨Nat.lt_of_lt_of_le a hb.size, (hb.cell (p := ⟨g, 0, none⟩) a).trans b, (hb.cell (p := ⟨g, 1, none⟩) a).trans c, (hb.cell (p := ⟨g, 2, none⟩) a).trans d, (hb.cell (p := ⟨g, 3, none⟩) a).trans e, (hb.cell (p := ⟨g, 4, none⟩) a).trans f⟩
theorem Hit.set {w : World} {L k g : Nat} {C : ByteArray} (h : Hit L k C g w) {q : Addr} (hq : q.block ≠ g) (v : Value) : Hit L k C g (w.setCell q v) := by
  obtain ⟨a, b, c, d, e, f⟩ := h
  have key : ∀ j, (w.setCell q v).cell? ⟨g, j, none⟩ = w.cell? ⟨g, j, none⟩ := fun j => World.cell?_setCell_other _ _ _ _ (by intro e; exact hq (by rw [e]))
  exact ⟨by simpa [World.setCell] using a, (key 0).trans b, (key 1).trans c, (key 2).trans d, (key 3).trans e, (key 4).trans f⟩
structure Hh (w0 : World) (Y Pb p L : Nat) (W : World) : Prop where
  bel : Below w0.heap.size w0 W
  ly : Y < W.heap.size
  lp : Pb < W.heap.size
  y0 : W.cell? ⟨Y, 0, none⟩ = some (.pointer (some ⟨p, 0, none⟩))
  y1 : W.cell? ⟨Y, 1, none⟩ = some (.int .i64 1)
  p0 : W.cell? ⟨Pb, 0, none⟩ = some (.int .i64 1)
  p1 : W.cell? ⟨Pb, 1, none⟩ = some (.int .i64 (L : Nat))
theorem Hh.next {w0 W W' : World} {Y Pb p L : Nat} (h : Hh w0 Y Pb p L W) (hb : Below W.heap.size W W') : Hh w0 Y Pb p L W' := ⟨h.bel.trans (hb.mono h.bel.size), Nat.lt_of_lt_of_le h.ly hb.size, Nat.lt_of_lt_of_le h.lp hb.size, (hb.cell (p := ⟨Y, 0, none⟩) h.ly).trans h.y0, (hb.cell (p := ⟨Y, 1, none⟩) h.ly).trans h.y1, (hb.cell (p := ⟨Pb, 0, none⟩) h.lp).trans h.p0, (hb.cell (p := ⟨Pb, 1, none⟩) h.lp).trans h.p1⟩
theorem hh_held {w0 W : World} {Y Pb p L : Nat} (h : Hid (Hh w0 Y Pb p L W)) : W.cell? ⟨Y, 0, none⟩ = some (.pointer (some ⟨p, 0, none⟩)) ∧ W.cell? ⟨Y, 1, none⟩ = some (.int .i64 1) ∧ W.cell? ⟨Pb, 0, none⟩ = some (.int .i64 1) ∧ W.cell? ⟨Pb, 1, none⟩ = some (.int .i64 (L : Nat)) ∧ Hid (Hh w0 Y Pb p L W) := ⟨h.out.y0, h.out.y1, h.out.p0, h.out.p1, h⟩
theorem hh_alloc {w0 W : World} {Y Pb p L : Nat} (h : Hid (Hh w0 Y Pb p L W)) (o : Obj) : Hid (Hh w0 Y Pb p L (W.alloc o)) := Lib.hid (h.out.next ((Below.refl _ _).alloc (Nat.le_refl _) o))
theorem hh_drew {w0 W : World} {Y Pb p L : Nat} (h : Hid (Hh w0 Y Pb p L W)) : Hid (Hh w0 Y Pb p L W.drew) := Lib.hid (h.out.next (Below.refl _ _).drew)
theorem Hh.drew {w0 W : World} {Y Pb p L : Nat} (h : Hh w0 Y Pb p L W) : Hh w0 Y Pb p L W.drew := h.next (Below.refl _ _).drew
def HitsP (w : World) (L k : Nat) (C : ByteArray) (e : Ending) (w' : World) : Prop := ∃ g c, e = .returned (.tuple #[.slice (some ⟨g, 0, none⟩) 1 c, .int .i64 0]) ∧ Hit L k C g w' ∧ w.heap.size ≤ g ∧ Below w.heap.size w w'
set_option maxRecDepth 100000 in
set_option maxHeartbeats 2000000 in
theorem hits_0 (p n L : Nat) (T V : ByteArray) (hD : Doc T V n L) (c : Int) (k : Nat) (hV : 0 < V.size) (hc : ((V[0]'hV).toNat : Int) = c) (hk : Kd c k) (hk4 : k < 4) (C : ByteArray) (hCs : C.size ≤ 100000) (s gp cp gs cs gl cl : Nat) (k1 : 1 ≤ cs) (k2 : 1 ≤ cl) (mo : Int) (hmo : 1 ≤ mo) (hmo2 : mo ≤ 5000) (w : World) (hX : Ix w p T n) (hLf : LeafP w p C) (hS : Se w s p n) (hC : Cd gp gs gl w) : Calls Tryz.prog 98 #[.pointer (some ⟨s, 0, none⟩), .int .i64 0, .pointer (some ⟨p, 0, none⟩), .agg #[.slice (some ⟨gp, 0, none⟩) 1 (cp : Nat), .slice (some ⟨gs, 0, none⟩) 1 (cs : Nat), .slice (some ⟨gl, 0, none⟩) 1 (cl : Nat), .slice none 0 0], .int .i64 mo] w fun e w' => HitsP w L k C e w' := by
  obtain ⟨i0, hi0, hz0, hs0, hb0⟩ := info_parts info125
  go_enter Tryz.func98, Tryz.ntmps98
  go_wp2_with fail
  refine (run99_0 p n L T V hD gp cp gs cs gl cl k1 k2 mo hmo hmo2 _ (hX.below (by (repeat' (first | refine Below.setCell ?_ (by first | (simp; done) | (simp; omega) | omega | (simp [World.setCell]; omega)) _ | refine Below.alloc ?_ (by first | (simp; done) | (simp; omega) | omega | (simp [World.setCell]; omega)) _ | refine below_drewN' ?_ _ | refine Below.drew ?_ | exact Hid.out (by assumption) | exact Below.refl _ _)))) (hC.below (by (repeat' (first | refine Below.setCell ?_ (by first | (simp; done) | (simp; omega) | omega | (simp [World.setCell]; omega)) _ | refine Below.alloc ?_ (by first | (simp; done) | (simp; omega) | omega | (simp [World.setCell]; omega)) _ | refine below_drewN' ?_ _ | refine Below.drew ?_ | exact Hid.out (by assumption) | exact Below.refl _ _))))).mono ?_; rintro e w1 ⟨g, cc, rfl, hb1, hcf, hg⟩
  have s1 := hb1.size; try simp at s1
  have HB1 := bel_step (w := w) (by (repeat' (first | refine Below.setCell ?_ (by first | (simp; done) | (simp; omega) | omega | (simp [World.setCell]; omega)) _ | refine Below.alloc ?_ (by first | (simp; done) | (simp; omega) | omega | (simp [World.setCell]; omega)) _ | refine below_drewN' ?_ _ | refine Below.drew ?_ | exact Hid.out (by assumption) | exact Below.refl _ _))) hb1
  clear hb1
  have g0 := hcf.c0; have g1 := hcf.c1; have gl0 := hcf.lt
  have gl1_ : g < w1.heap.size + 1 := by omega
  have gl2_ : g < w1.heap.size + 1 + 1 := by omega
  have gl3_ : g < w1.heap.size + 1 + 1 + 1 := by omega
  have gl4_ : g < w1.heap.size + 1 + 1 + 1 + 1 := by omega
  have gl5_ : g < w1.heap.size + 1 + 1 + 1 + 1 + 1 := by omega
  go_wp2_with fail
  refine (srecord_0 s p n _ (hS.below (by (repeat' (first | refine Below.setCell ?_ (by first | (simp; done) | (simp; omega) | omega | (simp [World.setCell]; omega)) _ | refine Below.alloc ?_ (by first | (simp; done) | (simp; omega) | omega | (simp [World.setCell]; omega)) _ | refine below_drewN' ?_ _ | refine Below.drew ?_ | exact Hid.out (by assumption) | exact Below.refl _ _))))).mono ?_; rintro e w2 ⟨at_, rfl, hb2⟩
  have s2 := hb2.size; try simp at s2
  have g2 := (hb2.cell (p := ⟨g, 0, none⟩) (by first | (simp; done) | (simp; omega) | omega | (simp [World.setCell]; omega))); simp [go_sem, g0] at g2
  have g3 := (hb2.cell (p := ⟨g, 1, none⟩) (by first | (simp; done) | (simp; omega) | omega | (simp [World.setCell]; omega))); simp [go_sem, g1] at g3
  have HB2 := bel_step (w := w) (by (repeat' (first | refine Below.setCell ?_ (by first | (simp; done) | (simp; omega) | omega | (simp [World.setCell]; omega)) _ | refine Below.alloc ?_ (by first | (simp; done) | (simp; omega) | omega | (simp [World.setCell]; omega)) _ | refine below_drewN' ?_ _ | refine Below.drew ?_ | exact Hid.out (by assumption) | exact Below.refl _ _))) hb2
  clear hb2
  have gm0 : g < w2.heap.size := by omega
  have gm1 : g < w2.heap.size + 1 := by omega
  have gm2 : g < w2.heap.size + 1 + 1 := by omega
  have gm3 : g < w2.heap.size + 1 + 1 + 1 := by omega
  have gm4 : g < w2.heap.size + 1 + 1 + 1 + 1 := by omega
  have gm5 : g < w2.heap.size + 1 + 1 + 1 + 1 + 1 := by omega
  go_wp2_with (first | (refine wp_loop_unr 3 ?_; refine Unr.step ?_; intro U hU) | (refine Unr.step ?_; intro U hU))
  refine (span_1 p n L T V hD _ (hX.below (by (repeat' (first | refine Below.setCell ?_ (by first | (simp; done) | (simp; omega) | omega | (simp [World.setCell]; omega)) _ | refine Below.alloc ?_ (by first | (simp; done) | (simp; omega) | omega | (simp [World.setCell]; omega)) _ | refine below_drewN' ?_ _ | refine Below.drew ?_ | exact Hid.out (by assumption) | exact Below.refl _ _))))).mono ?_; rintro e w3 ⟨rfl, hb3⟩
  have s3 := hb3.size; try simp at s3
  try (have l3_2_0_0 : w2.heap.size < w3.heap.size := by omega)
  try (have l3_2_0_1 : w2.heap.size < w3.heap.size + 1 := by omega)
  try (have l3_2_0_2 : w2.heap.size < w3.heap.size + 1 + 1 := by omega)
  try (have l3_2_1_0 : w2.heap.size + 1 < w3.heap.size := by omega)
  try (have l3_2_1_1 : w2.heap.size + 1 < w3.heap.size + 1 := by omega)
  try (have l3_2_1_2 : w2.heap.size + 1 < w3.heap.size + 1 + 1 := by omega)
  try (have e3_2_0_0 := hb3.cell (p := ⟨w2.heap.size, 0, none⟩) (by first | (simp; done) | (simp; omega) | omega | (simp [World.setCell]; omega)); simp [go_sem, *] at e3_2_0_0)
  try (have f3_2_0_0 := hb3.frozen (p := ⟨w2.heap.size, 0, none⟩) (by first | (simp; done) | (simp; omega) | omega | (simp [World.setCell]; omega)); simp [go_sem, *] at f3_2_0_0)
  try (have e3_2_0_1 := hb3.cell (p := ⟨w2.heap.size, 1, none⟩) (by first | (simp; done) | (simp; omega) | omega | (simp [World.setCell]; omega)); simp [go_sem, *] at e3_2_0_1)
  try (have f3_2_0_1 := hb3.frozen (p := ⟨w2.heap.size, 1, none⟩) (by first | (simp; done) | (simp; omega) | omega | (simp [World.setCell]; omega)); simp [go_sem, *] at f3_2_0_1)
  try (have e3_2_0_2 := hb3.cell (p := ⟨w2.heap.size, 2, none⟩) (by first | (simp; done) | (simp; omega) | omega | (simp [World.setCell]; omega)); simp [go_sem, *] at e3_2_0_2)
  try (have f3_2_0_2 := hb3.frozen (p := ⟨w2.heap.size, 2, none⟩) (by first | (simp; done) | (simp; omega) | omega | (simp [World.setCell]; omega)); simp [go_sem, *] at f3_2_0_2)
  try (have e3_2_0_3 := hb3.cell (p := ⟨w2.heap.size, 3, none⟩) (by first | (simp; done) | (simp; omega) | omega | (simp [World.setCell]; omega)); simp [go_sem, *] at e3_2_0_3)
  try (have f3_2_0_3 := hb3.frozen (p := ⟨w2.heap.size, 3, none⟩) (by first | (simp; done) | (simp; omega) | omega | (simp [World.setCell]; omega)); simp [go_sem, *] at f3_2_0_3)
  try (have e3_2_1_0 := hb3.cell (p := ⟨w2.heap.size + 1, 0, none⟩) (by first | (simp; done) | (simp; omega) | omega | (simp [World.setCell]; omega)); simp [go_sem, *] at e3_2_1_0)
  try (have f3_2_1_0 := hb3.frozen (p := ⟨w2.heap.size + 1, 0, none⟩) (by first | (simp; done) | (simp; omega) | omega | (simp [World.setCell]; omega)); simp [go_sem, *] at f3_2_1_0)
  try (have e3_2_1_1 := hb3.cell (p := ⟨w2.heap.size + 1, 1, none⟩) (by first | (simp; done) | (simp; omega) | omega | (simp [World.setCell]; omega)); simp [go_sem, *] at e3_2_1_1)
  try (have f3_2_1_1 := hb3.frozen (p := ⟨w2.heap.size + 1, 1, none⟩) (by first | (simp; done) | (simp; omega) | omega | (simp [World.setCell]; omega)); simp [go_sem, *] at f3_2_1_1)
  have HB3 := bel_step (w := w) (by (repeat' (first | refine Below.setCell ?_ (by first | (simp; done) | (simp; omega) | omega | (simp [World.setCell]; omega)) _ | refine Below.alloc ?_ (by first | (simp; done) | (simp; omega) | omega | (simp [World.setCell]; omega)) _ | refine below_drewN' ?_ _ | refine Below.drew ?_ | exact Hid.out (by assumption) | exact Below.refl _ _))) hb3
  clear hb3
  go_wp2_with fail
  have hL9 := hD.n1; have hL8 := hD.hL; have hwL : wrap64 (L : Int) = L := by unfold wrap64; omega
  clear hL9 hL8
  go_region
  go_wp2_with fail
  have l3y : w2.heap.size + 1 < w3.heap.size := by omega
  have hsz : w.heap.size ≤ w3.heap.size := HB3.out.size
  have HX4 : Hid (Hh w (w2.heap.size + 1) w3.heap.size p L ((w3.alloc (.cells #[.int .i64 1, .int .i64 (L : Nat)] 61)).drew)) := Lib.hid ⟨by (repeat' (first | refine Below.setCell ?_ (by first | (simp; done) | (simp; omega) | omega | (simp [World.setCell]; omega)) _ | refine Below.alloc ?_ (by first | (simp; done) | (simp; omega) | omega | (simp [World.setCell]; omega)) _ | refine below_drewN' ?_ _ | refine Below.drew ?_ | exact Hid.out (by assumption) | exact Below.refl _ _)), by simp; omega, by simp, by simp [go_sem, *], by simp [go_sem, *], by simp [go_sem, *], by simp [go_sem, *]⟩
  generalize hWW : ((w3.alloc (.cells #[.int .i64 1, .int .i64 (L : Nat)] 61)).drew) = W4 at HX4 ⊢
  clear hWW
  obtain ⟨-, ly4, lp4, ya4, yb4, pa4, pb4⟩ := id HX4.out
  have hs1 : ∀ (W : World) (hW : Hh w (w2.heap.size + 1) w3.heap.size p L W), Calls Tryz.prog 142 #[.agg #[.pointer (some ⟨p, 0, none⟩), .int .i64 1]] W fun e w' => e = .returned (.string ⟨#[36, 91, 48, 93]⟩) ∧ Hh w (w2.heap.size + 1) w3.heap.size p L w' := fun W hW => (path_1 p n L T V hD W (hX.below hW.bel)).mono fun e w' ⟨a, b⟩ => ⟨a, hW.next b⟩
  have hs2 : ∀ (W : World) (hW : Hh w (w2.heap.size + 1) w3.heap.size p L W), Calls Tryz.prog 103 #[.agg #[.pointer (some ⟨p, 0, none⟩), .int .i64 1]] W fun e w' => e = .returned (.int .i64 (k : Nat)) ∧ Hh w (w2.heap.size + 1) w3.heap.size p L w' := fun W hW => (kind_1 p n L T V hD c k hV hc hk hk4 W (hX.below hW.bel)).mono fun e w' ⟨a, b⟩ => ⟨a, hW.next b⟩
  have hs3 : ∀ (W : World) (hW : Hh w (w2.heap.size + 1) w3.heap.size p L W), Calls Tryz.prog 143 #[.agg #[.pointer (some ⟨p, 0, none⟩), .int .i64 1]] W fun e w' => e = .returned (.string C) ∧ Hh w (w2.heap.size + 1) w3.heap.size p L w' := fun W hW => (value_1 p n L T V hD c k hV hc hk hk4 C hCs W (hX.below hW.bel) (hLf.below hW.bel)).mono fun e w' ⟨a, b⟩ => ⟨a, hW.next b⟩
  go_region_held3 (fun w' => w'.cell? ⟨w2.heap.size + 1, 0, none⟩ = some (.pointer (some ⟨p, 0, none⟩)) ∧ w'.cell? ⟨w2.heap.size + 1, 1, none⟩ = some (.int .i64 1) ∧ w'.cell? ⟨w3.heap.size, 0, none⟩ = some (.int .i64 1) ∧ w'.cell? ⟨w3.heap.size, 1, none⟩ = some (.int .i64 (L : Nat)) ∧ Hid (Hh w (w2.heap.size + 1) w3.heap.size p L w')) (first | exact hh_held (by assumption) | exact hh_held (hh_drew (by assumption)) | exact hh_held (hh_alloc (by assumption) _)) (first | (go_at_call 142; refine (hs1 _ (by repeat' (first | exact Hid.out (by assumption) | refine Hh.drew ?_))).mono ?_; rintro e w5 ⟨rfl, hb⟩; have HX5 := Lib.hid hb; clear hb) | (go_at_call 103; refine (hs2 _ (by repeat' (first | exact Hid.out (by assumption) | refine Hh.drew ?_))).mono ?_; rintro e w6 ⟨rfl, hb⟩; have HX6 := Lib.hid hb; clear hb) | (go_at_call 143; refine (hs3 _ (by repeat' (first | exact Hid.out (by assumption) | refine Hh.drew ?_))).mono ?_; rintro e w7 ⟨rfl, hb⟩; have HX7 := Lib.hid hb; clear hb) | ((first | refine step_push rfl _ _ 132 rfl 125 i0 _ 5 56 Tryz.underlying132 hi0 hz0 hs0 hb0 rfl (by omega) (Acc.nil (Below.refl _ _) 125 5) rfl rfl (by first | rfl | simp) rfl rfl (by omega) (by omega) ?_ | refine step_push_d rfl _ _ 132 rfl 125 i0 _ 5 56 Tryz.underlying132 hi0 hz0 hs0 hb0 rfl (by omega) (Acc.nil (Below.refl _ _) 125 5) rfl rfl (by first | rfl | simp) rfl rfl (by omega) (by omega) ?_ | refine step_push_dd rfl _ _ 132 rfl 125 i0 _ 5 56 Tryz.underlying132 hi0 hz0 hs0 hb0 rfl (by omega) (Acc.nil (Below.refl _ _) 125 5) rfl rfl (by first | rfl | simp) rfl rfl (by omega) (by omega) ?_ | refine step_push_d3 rfl _ _ 132 rfl 125 i0 _ 5 56 Tryz.underlying132 hi0 hz0 hs0 hb0 rfl (by omega) (Acc.nil (Below.refl _ _) 125 5) rfl rfl (by first | rfl | simp) rfl rfl (by omega) (by omega) ?_); intro gn cn w8 hA; have hgn : w.heap.size ≤ gn := Nat.le_trans ((by repeat' (first | exact Hid.out (by assumption) | refine Hh.drew ?_)) : Hh w (w2.heap.size + 1) w3.heap.size p L _).bel.size hA.row.1; have HX8 := Lib.hid (((by repeat' (first | exact Hid.out (by assumption) | refine Hh.drew ?_)) : Hh w (w2.heap.size + 1) w3.heap.size p L _).next hA.bel); have HA := Lib.hid hA; clear hA))
  have hr := HA.out.row
  have HT : Hid (Hit L k C gn w8) := Lib.hid ⟨hr.2.1, hr.2.2 0 _ rfl, hr.2.2 1 _ rfl, hr.2.2 2 _ rfl, hr.2.2 3 _ rfl, hr.2.2 4 _ rfl⟩
  have HB8 : Hid (Below w.heap.size w w8) := Lib.hid HX8.out.bel
  clear hr HA
  go_wp2_with (first | (refine wp_loop_unr 3 ?_; refine Unr.step ?_; intro U hU) | (refine Unr.step ?_; intro U hU))
  try simp only [Exit.inBlock, Exit.then]
  refine bodyPost_ret (v := .tuple #[.slice (some ⟨gn, 0, none⟩) 1 cn, .int .i64 0]) (by simp [results, Tryz.results98, go_sem]) rfl ⟨gn, cn, rfl, HT.out, hgn, HB8.out⟩
def AskP (w : World) (L k : Nat) (C : ByteArray) (e : Ending) (w' : World) : Prop := ∃ g c, e = .returned (.tuple #[.slice (some ⟨g, 0, none⟩) 1 c, .agg #[.int .i64 0, .int .i64 0]]) ∧ Hit L k C g w' ∧ w.heap.size ≤ g ∧ Below w.heap.size w w'
set_option maxRecDepth 100000 in
set_option maxHeartbeats 2000000 in
theorem ask_0 (p n L : Nat) (T V : ByteArray) (hD : Doc T V n L) (c : Int) (k : Nat) (hV : 0 < V.size) (hc : ((V[0]'hV).toNat : Int) = c) (hk : Kd c k) (hk4 : k < 4) (C : ByteArray) (hCs : C.size ≤ 100000) (s : Nat) (mo : Int) (hmo : 1 ≤ mo) (hmo2 : mo ≤ 5000) (w : World) (hX : Ix w p T n) (hLf : LeafP w p C) (hS : Se w s p n) : Calls Tryz.prog 95 #[.pointer (some ⟨s, 0, none⟩), .int .i64 0, .string ⟨#[36, 91, 48, 93]⟩, .int .i64 mo] w fun e w' => AskP w L k C e w' := by
  go_enter Tryz.func95, Tryz.ntmps95
  go_wp2_with fail
  refine (query_any _).mono ?_; rintro e w1 ⟨gp, cp, gs, cs, gl, cl, rfl, hCd, ⟨k1, k2⟩, hb1⟩
  have s1 := hb1.size; try simp at s1
  try (have l1_0_0_0 : w.heap.size < w1.heap.size := by omega)
  try (have l1_0_0_1 : w.heap.size < w1.heap.size + 1 := by omega)
  try (have l1_0_0_2 : w.heap.size < w1.heap.size + 1 + 1 := by omega)
  try (have e1_0_0_0 := hb1.cell (p := ⟨w.heap.size, 0, none⟩) (by first | (simp; done) | (simp; omega) | omega | (simp [World.setCell]; omega)); simp [go_sem, *] at e1_0_0_0)
  try (have f1_0_0_0 := hb1.frozen (p := ⟨w.heap.size, 0, none⟩) (by first | (simp; done) | (simp; omega) | omega | (simp [World.setCell]; omega)); simp [go_sem, *] at f1_0_0_0)
  try (have e1_0_0_1 := hb1.cell (p := ⟨w.heap.size, 1, none⟩) (by first | (simp; done) | (simp; omega) | omega | (simp [World.setCell]; omega)); simp [go_sem, *] at e1_0_0_1)
  try (have f1_0_0_1 := hb1.frozen (p := ⟨w.heap.size, 1, none⟩) (by first | (simp; done) | (simp; omega) | omega | (simp [World.setCell]; omega)); simp [go_sem, *] at f1_0_0_1)
  have HB1 := bel_step (w := w) (by (repeat' (first | refine Below.setCell ?_ (by first | (simp; done) | (simp; omega) | omega | (simp [World.setCell]; omega)) _ | refine Below.alloc ?_ (by first | (simp; done) | (simp; omega) | omega | (simp [World.setCell]; omega)) _ | refine below_drewN' ?_ _ | refine Below.drew ?_ | exact Hid.out (by assumption) | exact Below.refl _ _))) hb1
  clear hb1
  go_wp2_with fail
  refine (sindex_0 s p n _ (hS.below (by (repeat' (first | refine Below.setCell ?_ (by first | (simp; done) | (simp; omega) | omega | (simp [World.setCell]; omega)) _ | refine Below.alloc ?_ (by first | (simp; done) | (simp; omega) | omega | (simp [World.setCell]; omega)) _ | refine below_drewN' ?_ _ | refine Below.drew ?_ | exact Hid.out (by assumption) | exact Below.refl _ _))))).mono ?_; rintro e w2 ⟨rfl, hb2⟩
  have s2 := hb2.size; try simp at s2
  try (have l2_0_0_0 : w.heap.size < w2.heap.size := by omega)
  try (have l2_0_0_1 : w.heap.size < w2.heap.size + 1 := by omega)
  try (have l2_0_0_2 : w.heap.size < w2.heap.size + 1 + 1 := by omega)
  try (have l2_1_0_0 : w1.heap.size < w2.heap.size := by omega)
  try (have l2_1_0_1 : w1.heap.size < w2.heap.size + 1 := by omega)
  try (have l2_1_0_2 : w1.heap.size < w2.heap.size + 1 + 1 := by omega)
  try (have l2_1_1_0 : w1.heap.size + 1 < w2.heap.size := by omega)
  try (have l2_1_1_1 : w1.heap.size + 1 < w2.heap.size + 1 := by omega)
  try (have l2_1_1_2 : w1.heap.size + 1 < w2.heap.size + 1 + 1 := by omega)
  try (have e2_0_0_0 := hb2.cell (p := ⟨w.heap.size, 0, none⟩) (by first | (simp; done) | (simp; omega) | omega | (simp [World.setCell]; omega)); simp [go_sem, *] at e2_0_0_0)
  try (have f2_0_0_0 := hb2.frozen (p := ⟨w.heap.size, 0, none⟩) (by first | (simp; done) | (simp; omega) | omega | (simp [World.setCell]; omega)); simp [go_sem, *] at f2_0_0_0)
  try (have e2_0_0_1 := hb2.cell (p := ⟨w.heap.size, 1, none⟩) (by first | (simp; done) | (simp; omega) | omega | (simp [World.setCell]; omega)); simp [go_sem, *] at e2_0_0_1)
  try (have f2_0_0_1 := hb2.frozen (p := ⟨w.heap.size, 1, none⟩) (by first | (simp; done) | (simp; omega) | omega | (simp [World.setCell]; omega)); simp [go_sem, *] at f2_0_0_1)
  try (have e2_1_0_0 := hb2.cell (p := ⟨w1.heap.size, 0, none⟩) (by first | (simp; done) | (simp; omega) | omega | (simp [World.setCell]; omega)); simp [go_sem, *] at e2_1_0_0)
  try (have f2_1_0_0 := hb2.frozen (p := ⟨w1.heap.size, 0, none⟩) (by first | (simp; done) | (simp; omega) | omega | (simp [World.setCell]; omega)); simp [go_sem, *] at f2_1_0_0)
  try (have e2_1_0_1 := hb2.cell (p := ⟨w1.heap.size, 1, none⟩) (by first | (simp; done) | (simp; omega) | omega | (simp [World.setCell]; omega)); simp [go_sem, *] at e2_1_0_1)
  try (have f2_1_0_1 := hb2.frozen (p := ⟨w1.heap.size, 1, none⟩) (by first | (simp; done) | (simp; omega) | omega | (simp [World.setCell]; omega)); simp [go_sem, *] at f2_1_0_1)
  try (have e2_1_0_2 := hb2.cell (p := ⟨w1.heap.size, 2, none⟩) (by first | (simp; done) | (simp; omega) | omega | (simp [World.setCell]; omega)); simp [go_sem, *] at e2_1_0_2)
  try (have f2_1_0_2 := hb2.frozen (p := ⟨w1.heap.size, 2, none⟩) (by first | (simp; done) | (simp; omega) | omega | (simp [World.setCell]; omega)); simp [go_sem, *] at f2_1_0_2)
  try (have e2_1_0_3 := hb2.cell (p := ⟨w1.heap.size, 3, none⟩) (by first | (simp; done) | (simp; omega) | omega | (simp [World.setCell]; omega)); simp [go_sem, *] at e2_1_0_3)
  try (have f2_1_0_3 := hb2.frozen (p := ⟨w1.heap.size, 3, none⟩) (by first | (simp; done) | (simp; omega) | omega | (simp [World.setCell]; omega)); simp [go_sem, *] at f2_1_0_3)
  try (have e2_1_1_0 := hb2.cell (p := ⟨w1.heap.size + 1, 0, none⟩) (by first | (simp; done) | (simp; omega) | omega | (simp [World.setCell]; omega)); simp [go_sem, *] at e2_1_1_0)
  try (have f2_1_1_0 := hb2.frozen (p := ⟨w1.heap.size + 1, 0, none⟩) (by first | (simp; done) | (simp; omega) | omega | (simp [World.setCell]; omega)); simp [go_sem, *] at f2_1_1_0)
  try (have e2_1_1_1 := hb2.cell (p := ⟨w1.heap.size + 1, 1, none⟩) (by first | (simp; done) | (simp; omega) | omega | (simp [World.setCell]; omega)); simp [go_sem, *] at e2_1_1_1)
  try (have f2_1_1_1 := hb2.frozen (p := ⟨w1.heap.size + 1, 1, none⟩) (by first | (simp; done) | (simp; omega) | omega | (simp [World.setCell]; omega)); simp [go_sem, *] at f2_1_1_1)
  have HB2 := bel_step (w := w) (by (repeat' (first | refine Below.setCell ?_ (by first | (simp; done) | (simp; omega) | omega | (simp [World.setCell]; omega)) _ | refine Below.alloc ?_ (by first | (simp; done) | (simp; omega) | omega | (simp [World.setCell]; omega)) _ | refine below_drewN' ?_ _ | refine Below.drew ?_ | exact Hid.out (by assumption) | exact Below.refl _ _))) hb2
  have HC2 : Hid (Cd gp gs gl w2) := Lib.hid ((hCd.below (by (repeat' (first | refine Below.setCell ?_ (by first | (simp; done) | (simp; omega) | omega | (simp [World.setCell]; omega)) _ | refine Below.alloc ?_ (by first | (simp; done) | (simp; omega) | omega | (simp [World.setCell]; omega)) _ | refine below_drewN' ?_ _ | refine Below.drew ?_ | exact Hid.out (by assumption) | exact Below.refl _ _)))).below hb2)
  clear hb2
  go_wp2_with fail
  refine (hits_0 p n L T V hD c k hV hc hk hk4 C hCs s gp cp gs cs gl cl k1 k2 mo hmo hmo2 _ (hX.below (by (repeat' (first | refine Below.setCell ?_ (by first | (simp; done) | (simp; omega) | omega | (simp [World.setCell]; omega)) _ | refine Below.alloc ?_ (by first | (simp; done) | (simp; omega) | omega | (simp [World.setCell]; omega)) _ | refine below_drewN' ?_ _ | refine Below.drew ?_ | exact Hid.out (by assumption) | exact Below.refl _ _)))) (hLf.below (by (repeat' (first | refine Below.setCell ?_ (by first | (simp; done) | (simp; omega) | omega | (simp [World.setCell]; omega)) _ | refine Below.alloc ?_ (by first | (simp; done) | (simp; omega) | omega | (simp [World.setCell]; omega)) _ | refine below_drewN' ?_ _ | refine Below.drew ?_ | exact Hid.out (by assumption) | exact Below.refl _ _)))) (hS.below (by (repeat' (first | refine Below.setCell ?_ (by first | (simp; done) | (simp; omega) | omega | (simp [World.setCell]; omega)) _ | refine Below.alloc ?_ (by first | (simp; done) | (simp; omega) | omega | (simp [World.setCell]; omega)) _ | refine below_drewN' ?_ _ | refine Below.drew ?_ | exact Hid.out (by assumption) | exact Below.refl _ _)))) (HC2.out.below (by (repeat' (first | refine Below.setCell ?_ (by first | (simp; done) | (simp; omega) | omega | (simp [World.setCell]; omega)) _ | refine Below.alloc ?_ (by first | (simp; done) | (simp; omega) | omega | (simp [World.setCell]; omega)) _ | refine below_drewN' ?_ _ | refine Below.drew ?_ | exact Hid.out (by assumption) | exact Below.refl _ _))))).mono ?_; rintro e w3 ⟨g, cc, rfl, hH, hgg, hb3⟩
  have s3 := hb3.size; try simp at s3
  try (have l3_0_0_0 : w.heap.size < w3.heap.size := by omega)
  try (have l3_0_0_1 : w.heap.size < w3.heap.size + 1 := by omega)
  try (have l3_0_0_2 : w.heap.size < w3.heap.size + 1 + 1 := by omega)
  try (have l3_1_0_0 : w1.heap.size < w3.heap.size := by omega)
  try (have l3_1_0_1 : w1.heap.size < w3.heap.size + 1 := by omega)
  try (have l3_1_0_2 : w1.heap.size < w3.heap.size + 1 + 1 := by omega)
  try (have l3_1_1_0 : w1.heap.size + 1 < w3.heap.size := by omega)
  try (have l3_1_1_1 : w1.heap.size + 1 < w3.heap.size + 1 := by omega)
  try (have l3_1_1_2 : w1.heap.size + 1 < w3.heap.size + 1 + 1 := by omega)
  try (have e3_0_0_0 := hb3.cell (p := ⟨w.heap.size, 0, none⟩) (by first | (simp; done) | (simp; omega) | omega | (simp [World.setCell]; omega)); simp [go_sem, *] at e3_0_0_0)
  try (have f3_0_0_0 := hb3.frozen (p := ⟨w.heap.size, 0, none⟩) (by first | (simp; done) | (simp; omega) | omega | (simp [World.setCell]; omega)); simp [go_sem, *] at f3_0_0_0)
  try (have e3_0_0_1 := hb3.cell (p := ⟨w.heap.size, 1, none⟩) (by first | (simp; done) | (simp; omega) | omega | (simp [World.setCell]; omega)); simp [go_sem, *] at e3_0_0_1)
  try (have f3_0_0_1 := hb3.frozen (p := ⟨w.heap.size, 1, none⟩) (by first | (simp; done) | (simp; omega) | omega | (simp [World.setCell]; omega)); simp [go_sem, *] at f3_0_0_1)
  try (have e3_1_0_0 := hb3.cell (p := ⟨w1.heap.size, 0, none⟩) (by first | (simp; done) | (simp; omega) | omega | (simp [World.setCell]; omega)); simp [go_sem, *] at e3_1_0_0)
  try (have f3_1_0_0 := hb3.frozen (p := ⟨w1.heap.size, 0, none⟩) (by first | (simp; done) | (simp; omega) | omega | (simp [World.setCell]; omega)); simp [go_sem, *] at f3_1_0_0)
  try (have e3_1_0_1 := hb3.cell (p := ⟨w1.heap.size, 1, none⟩) (by first | (simp; done) | (simp; omega) | omega | (simp [World.setCell]; omega)); simp [go_sem, *] at e3_1_0_1)
  try (have f3_1_0_1 := hb3.frozen (p := ⟨w1.heap.size, 1, none⟩) (by first | (simp; done) | (simp; omega) | omega | (simp [World.setCell]; omega)); simp [go_sem, *] at f3_1_0_1)
  try (have e3_1_0_2 := hb3.cell (p := ⟨w1.heap.size, 2, none⟩) (by first | (simp; done) | (simp; omega) | omega | (simp [World.setCell]; omega)); simp [go_sem, *] at e3_1_0_2)
  try (have f3_1_0_2 := hb3.frozen (p := ⟨w1.heap.size, 2, none⟩) (by first | (simp; done) | (simp; omega) | omega | (simp [World.setCell]; omega)); simp [go_sem, *] at f3_1_0_2)
  try (have e3_1_0_3 := hb3.cell (p := ⟨w1.heap.size, 3, none⟩) (by first | (simp; done) | (simp; omega) | omega | (simp [World.setCell]; omega)); simp [go_sem, *] at e3_1_0_3)
  try (have f3_1_0_3 := hb3.frozen (p := ⟨w1.heap.size, 3, none⟩) (by first | (simp; done) | (simp; omega) | omega | (simp [World.setCell]; omega)); simp [go_sem, *] at f3_1_0_3)
  try (have e3_1_1_0 := hb3.cell (p := ⟨w1.heap.size + 1, 0, none⟩) (by first | (simp; done) | (simp; omega) | omega | (simp [World.setCell]; omega)); simp [go_sem, *] at e3_1_1_0)
  try (have f3_1_1_0 := hb3.frozen (p := ⟨w1.heap.size + 1, 0, none⟩) (by first | (simp; done) | (simp; omega) | omega | (simp [World.setCell]; omega)); simp [go_sem, *] at f3_1_1_0)
  try (have e3_1_1_1 := hb3.cell (p := ⟨w1.heap.size + 1, 1, none⟩) (by first | (simp; done) | (simp; omega) | omega | (simp [World.setCell]; omega)); simp [go_sem, *] at e3_1_1_1)
  try (have f3_1_1_1 := hb3.frozen (p := ⟨w1.heap.size + 1, 1, none⟩) (by first | (simp; done) | (simp; omega) | omega | (simp [World.setCell]; omega)); simp [go_sem, *] at f3_1_1_1)
  have HB3 := bel_step (w := w) (by (repeat' (first | refine Below.setCell ?_ (by first | (simp; done) | (simp; omega) | omega | (simp [World.setCell]; omega)) _ | refine Below.alloc ?_ (by first | (simp; done) | (simp; omega) | omega | (simp [World.setCell]; omega)) _ | refine below_drewN' ?_ _ | refine Below.drew ?_ | exact Hid.out (by assumption) | exact Below.refl _ _))) hb3
  clear hb3
  try simp at hgg
  go_wp2_with fail
  try simp only [Exit.inBlock, Exit.then]
  refine bodyPost_ret (v := .tuple #[.slice (some ⟨g, 0, none⟩) 1 cc, .agg #[.int .i64 0, .int .i64 0]]) (by simp [results, Tryz.results95, go_sem, *]) rfl ⟨g, cc, rfl, by repeat' (first | refine Hit.set ?_ (by show w.heap.size ≠ g; omega) _ | exact hH), by omega, by (repeat' (first | refine Below.setCell ?_ (by first | (simp; done) | (simp; omega) | omega | (simp [World.setCell]; omega)) _ | refine Below.alloc ?_ (by first | (simp; done) | (simp; omega) | omega | (simp [World.setCell]; omega)) _ | refine below_drewN' ?_ _ | refine Below.drew ?_ | exact Hid.out (by assumption) | exact Below.refl _ _))⟩
end Go.Proofs.YtjelneeeijjpiaaGreatDoor
end
