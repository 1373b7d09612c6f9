/- TopText: walks and plain laws, part 21: lemmas on what the functions that the law comes to compute. -/
import Derived.Test.YtjelneeeijjpiaaGreatDoorG20
import Derived.Test.YtjelneeeijjpiaaGreatDoorRows
import Derived.Test.YtjelneeeijjpiaaGreatDoorG04
import Derived.WalkKit
import Derived.Shelf.RegionOpen
import Derived.Deep.AppendLies
import Derived.Lib.Hide
import Derived.Outline
import Derived.IntWalk
import Derived.Deep.Light
import Derived.Below
import Derived.Lib.Builder
import Derived.Lib.FrozenHead2
import Derived.Lib.OthersKept
import Derived.Laws.Externs
set_option linter.unusedVariables false
set_option linter.unusedSimpArgs false
section
namespace Go.Proofs.YtjelneeeijjpiaaGreatDoor
open Go.RowKit
set_option maxRecDepth 100000 in
set_option maxHeartbeats 2000000 in
theorem over_e (r g : Nat) (w : World) (h : Rd4 w r g) : Calls Tryz.prog 151 #[.pointer (some ⟨r, 0, none⟩)] w fun e w' => e = .returned (.bool true) ∧ w = w' := by
  obtain ⟨lt, ⟨o, c, c0⟩, c1, c2, c3, c4⟩ := id h
  go_enter Tryz.func151, Tryz.ntmps151
  go_wp2_with fail
  go_ret
  exact ⟨rfl, rfl⟩
set_option maxRecDepth 100000 in
set_option maxHeartbeats 2000000 in
theorem kind_e (r g : Nat) (w : World) (h : Rd4 w r g) : Calls Tryz.prog 203 #[.pointer (some ⟨r, 0, none⟩)] w fun e w' => e = .returned (.int .i64 0) ∧ w = w' := by
  obtain ⟨lt, ⟨o, c, c0⟩, c1, c2, c3, c4⟩ := id h
  go_enter Tryz.func203, Tryz.ntmps203
  go_wp2_with (first | (go_at_call 151; refine (over_e r g _ h).mono ?_; rintro e w9 ⟨rfl, rfl⟩))
  go_wp2_with fail
  go_ret
  exact ⟨rfl, rfl⟩
set_option maxRecDepth 100000 in
set_option maxHeartbeats 2000000 in
theorem is_e (r g : Nat) (s : ByteArray) (w : World) (h : Rd4 w r g) : Calls Tryz.prog 148 #[.pointer (some ⟨r, 0, none⟩), .string s] w fun e w' => e = .returned (.bool false) ∧ w = w' := by
  obtain ⟨lt, ⟨o, c, c0⟩, c1, c2, c3, c4⟩ := id h
  go_enter Tryz.func148, Tryz.ntmps148
  go_wp2_with (first | (go_at_call 203; refine (kind_e r g _ h).mono ?_; rintro e w9 ⟨rfl, rfl⟩))
  go_wp2_with fail
  go_ret
  exact ⟨rfl, rfl⟩
theorem info264 : (Tryz.prog.info? 264).map (fun i => (i.zero, i.size, i.bytes)) = some (some (.agg #[.bool false, .slice none 0 0]), 2, 32) := by kernel_rfl
structure Pa (w : World) (q s : Nat) : Prop where
  lt : q < w.heap.size
  c0 : w.cell? ⟨q, 0, none⟩ = some (.bool false)
  c1 : w.cell? ⟨q, 1, none⟩ = some (.slice (some ⟨s, 0, none⟩) 1 1)
  sl : Sl w s
theorem Pa.below {w w' : World} {q s : Nat} (h : Pa w q s) (hb : Below w.heap.size w w') : Pa w' q s := ⟨Nat.lt_of_lt_of_le h.lt hb.size, (hb.cell (p := ⟨q, 0, none⟩) h.lt).trans h.c0, (hb.cell (p := ⟨q, 1, none⟩) h.lt).trans h.c1, h.sl.below hb⟩
theorem Pa.set {w : World} {q s : Nat} (h : Pa w q s) {a : Addr} (h1 : a.block ≠ q) (h2 : a.block ≠ s) (v : Value) : Pa (w.setCell a v) q s := ⟨by simpa [World.setCell] using h.lt, (World.cell?_setCell_other _ _ _ _ (by intro e; exact h1 (by rw [e]))).trans h.c0, (World.cell?_setCell_other _ _ _ _ (by intro e; exact h1 (by rw [e]))).trans h.c1, h.sl.set h2 v⟩
set_option maxRecDepth 100000 in
set_option maxHeartbeats 2000000 in
theorem path_0 (r g cap : Nat) (w : World) (h : Rd0 w r g cap) : Calls Tryz.prog 150 #[.pointer (some ⟨r, 0, none⟩)] w fun e w' => ∃ q c s, e = .returned (.agg #[.bool true, .slice (some ⟨q, 0, none⟩) 1 c]) ∧ RF r w w' ∧ Rd4 w' r g ∧ w.heap.size ≤ q ∧ w.heap.size ≤ s ∧ Pa w' q s := by
  have lt := h.1.lt
  have glt := h.1.glt
  obtain ⟨i0, hi0, hz0, hs0, hb0⟩ := info_parts info264
  go_enter Tryz.func150, Tryz.ntmps150
  go_wp2_with (first | (go_at_call 148; refine (is_s r g _ _ _ _ _ _ _ true (by simp only [ByteArray.toList_eq]; decide) _ (Rq.below h.1 (by (repeat' (first | exact Below.refl _ _ | exact Hid.out (by assumption) | refine Below.alloc ?_ (by first | (simp; done) | (simp; omega) | omega) _ | refine Below.setCell ?_ (by first | (simp; done) | (simp; omega) | omega) _ | refine below_drewN' ?_ _ | refine Below.drew ?_))))).mono ?_; rintro e w9 ⟨rfl, rfl⟩))
  refine (next_0 r g cap _ ⟨(by repeat' (first | refine Rq.setO ?_ (by first | (simp; done) | (simp; omega) | omega) (by first | (simp; done) | (simp; omega) | omega) _ | refine Rq.below ?_ ((Below.refl _ _).alloc (Nat.le_refl _) _) | exact h.1)), (by repeat' (first | refine Tk.set ?_ _ _ (by first | (simp; done) | (simp; omega) | omega) | refine Tk.below ?_ ((Below.refl _ _).alloc (Nat.le_refl _) _) | exact h.2))⟩).mono ?_; rintro e w1 ⟨rfl, hf, hn⟩
  have s1 := hf.gr.size; try simp at s1
  try (have l1_0 : w.heap.size < w1.heap.size := by omega)
  try (have l1_1 : w.heap.size < w1.heap.size + 1 := by omega)
  try (have l1_2 : w.heap.size < w1.heap.size + 1 + 1 := by omega)
  try (have lr1 : r < w1.heap.size := by omega)
  try (have e1_0 := hf.far (b := w.heap.size) (c := 0) (by first | (simp; done) | (simp; omega) | omega) (by omega); simp [go_sem] at e1_0)
  try (have f1_0 := hf.farz (b := w.heap.size) (c := 0) (by first | (simp; done) | (simp; omega) | omega) (by omega); simp [go_sem] at f1_0)
  try (have e1_1 := hf.far (b := w.heap.size) (c := 1) (by first | (simp; done) | (simp; omega) | omega) (by omega); simp [go_sem] at e1_1)
  try (have f1_1 := hf.farz (b := w.heap.size) (c := 1) (by first | (simp; done) | (simp; omega) | omega) (by omega); simp [go_sem] at f1_1)
  have s2 := hf.gr.size; try simp at s2
  try (have l2_0 : w.heap.size + 1 < w1.heap.size := by omega)
  try (have l2_1 : w.heap.size + 1 < w1.heap.size + 1 := by omega)
  try (have l2_2 : w.heap.size + 1 < w1.heap.size + 1 + 1 := by omega)
  try (have lr2 : r < w1.heap.size := by omega)
  try (have e2_0 := hf.far (b := w.heap.size + 1) (c := 0) (by first | (simp; done) | (simp; omega) | omega) (by omega); simp [go_sem] at e2_0)
  try (have f2_0 := hf.farz (b := w.heap.size + 1) (c := 0) (by first | (simp; done) | (simp; omega) | omega) (by omega); simp [go_sem] at f2_0)
  try (have e2_1 := hf.far (b := w.heap.size + 1) (c := 1) (by first | (simp; done) | (simp; omega) | omega) (by omega); simp [go_sem] at e2_1)
  try (have f2_1 := hf.farz (b := w.heap.size + 1) (c := 1) (by first | (simp; done) | (simp; omega) | omega) (by omega); simp [go_sem] at f2_1)
  have F1 := rf_step (r := r) (w := w) (by (repeat' (first | refine RF.new ?_ lt (by first | (simp; done) | (simp; omega) | omega) _ | (refine RF.alloc ?_ lt _) | (refine RF.drew ?_ lt) | refine RF.set ?_ _ | exact Hid.out (by assumption) | exact RF.refl _ _))) hf
  clear hf
  go_wp2_with (first | (refine wp_loop_unr 3 ?_; refine Unr.step ?_; intro U hU) | (refine Unr.step ?_; intro U hU) | (go_at_call 148; refine (is_s r g _ _ _ _ _ _ _ true (by simp only [ByteArray.toList_eq]; decide) _ (Rq.below hn.1 (by (repeat' (first | exact Below.refl _ _ | exact Hid.out (by assumption) | refine Below.alloc ?_ (by first | (simp; done) | (simp; omega) | omega) _ | refine Below.setCell ?_ (by first | (simp; done) | (simp; omega) | omega) _ | refine below_drewN' ?_ _ | refine Below.drew ?_))))).mono ?_; rintro e w9 ⟨rfl, rfl⟩))
  have hsg : ∀ (W : World) (hW : Below w1.heap.size w1 W), Calls Tryz.prog 207 #[.pointer (some ⟨r, 0, none⟩)] W fun e w' => ∃ s, e = .returned (.agg #[.bool false, .slice (some ⟨s, 0, none⟩) 1 1]) ∧ Hid (RF r w w') ∧ Hid (Sl w' s) ∧ Hid (Rd4 w' r g) ∧ Hid (w1.heap.size ≤ s) ∧ w1.heap.size ≤ w'.heap.size ∧ w.heap.size < w'.heap.size ∧ w.heap.size + 1 < w'.heap.size ∧ w'.cell? ⟨w.heap.size + 1, 0, none⟩ = some (.bool true) ∧ w'.frozen? ⟨w.heap.size + 1, 0, none⟩ = false ∧ w'.cell? ⟨w.heap.size + 1, 1, none⟩ = some (.slice none 0 0) ∧ w'.frozen? ⟨w.heap.size + 1, 1, none⟩ = false ∧ w'.cell? ⟨w.heap.size, 0, none⟩ = some (.bool false) ∧ w'.frozen? ⟨w.heap.size, 0, none⟩ = false ∧ w'.cell? ⟨w.heap.size, 1, none⟩ = some (.slice none 0 0) ∧ w'.frozen? ⟨w.heap.size, 1, none⟩ = false := fun W hW => (seg_1 r g (cap - 1) W ⟨Rq.below hn.1 hW, Tk.below hn.2 hW⟩).mono fun e w' ⟨s, h1, h2, h3, h4, h5⟩ => ⟨s, h1, rf_step (w := w) ((F1.out.trans (RF.below lr1 hW))) h2, Lib.hid h4, Lib.hid h5, Lib.hid (Nat.le_trans hW.size h3), Nat.le_trans hW.size h2.gr.size, by have := h2.gr.size; have := hW.size; omega, by have := h2.gr.size; have := hW.size; omega, (h2.far (b := w.heap.size + 1) (c := 0) (by have := hW.size; omega) (by omega)).trans ((hW.cell (p := ⟨w.heap.size + 1, 0, none⟩) (by simp; omega)).trans e2_0), (h2.farz (b := w.heap.size + 1) (c := 0) (by have := hW.size; omega) (by omega)).trans ((hW.frozen (p := ⟨w.heap.size + 1, 0, none⟩) (by simp; omega)).trans f2_0), (h2.far (b := w.heap.size + 1) (c := 1) (by have := hW.size; omega) (by omega)).trans ((hW.cell (p := ⟨w.heap.size + 1, 1, none⟩) (by simp; omega)).trans e2_1), (h2.farz (b := w.heap.size + 1) (c := 1) (by have := hW.size; omega) (by omega)).trans ((hW.frozen (p := ⟨w.heap.size + 1, 1, none⟩) (by simp; omega)).trans f2_1), (h2.far (b := w.heap.size) (c := 0) (by have := hW.size; omega) (by omega)).trans ((hW.cell (p := ⟨w.heap.size, 0, none⟩) (by simp; omega)).trans e1_0), (h2.farz (b := w.heap.size) (c := 0) (by have := hW.size; omega) (by omega)).trans ((hW.frozen (p := ⟨w.heap.size, 0, none⟩) (by simp; omega)).trans f1_0), (h2.far (b := w.heap.size) (c := 1) (by have := hW.size; omega) (by omega)).trans ((hW.cell (p := ⟨w.heap.size, 1, none⟩) (by simp; omega)).trans e1_1), (h2.farz (b := w.heap.size) (c := 1) (by have := hW.size; omega) (by omega)).trans ((hW.frozen (p := ⟨w.heap.size, 1, none⟩) (by simp; omega)).trans f1_1)⟩
  go_region_law ((first | (go_simp; go_at_call 207; refine (hsg _ (by (repeat' (first | exact Below.refl _ _ | exact Hid.out (by assumption) | refine Below.alloc ?_ (by first | (simp; done) | (simp; omega) | omega) _ | refine Below.setCell ?_ (by first | (simp; done) | (simp; omega) | omega) _ | refine below_drewN' ?_ _ | refine Below.drew ?_)))).mono ?_; rintro e w2 ⟨s, rfl, G1, G2, G3, G4, z1, z2, z3, a0, b0, a1, b1, a2, b2, a3, b3⟩) | (refine step_push rfl _ _ 197 rfl 264 i0 _ 2 32 Tryz.underlying197 hi0 hz0 hs0 hb0 rfl (by omega) (Acc.nil (Below.refl _ _) 264 2) rfl rfl rfl rfl rfl (by omega) (by omega) ?_; intro gb cp w3 hA; have xa0 := (hA.bel.cell (p := ⟨w.heap.size + 1, 0, none⟩) z3).trans a0; have xb0 := (hA.bel.frozen (p := ⟨w.heap.size + 1, 0, none⟩) z3).trans b0; have xa1 := (hA.bel.cell (p := ⟨w.heap.size + 1, 1, none⟩) z3).trans a1; have xb1 := (hA.bel.frozen (p := ⟨w.heap.size + 1, 1, none⟩) z3).trans b1; have xa2 := (hA.bel.cell (p := ⟨w.heap.size, 0, none⟩) z2).trans a2; have xb2 := (hA.bel.frozen (p := ⟨w.heap.size, 0, none⟩) z2).trans b2; have xa3 := (hA.bel.cell (p := ⟨w.heap.size, 1, none⟩) z2).trans a3; have xb3 := (hA.bel.frozen (p := ⟨w.heap.size, 1, none⟩) z2).trans b3; have HA := Lib.hid hA; clear hA)))
  all_goals
    have hr := HA.out.row
    have lq := G3.out.lt
    have hg4 := G4.out
    have hr1 := hr.1
    have HR : Hid (Rd4 (w3.setCell (⟨w.heap.size + 1, 1, none⟩ : Addr) (Value.slice (some ⟨gb, 0, none⟩) 1 cp)) r g) := Lib.hid ((Rd4.below G3.out HA.out.bel).setO (by simp; omega) _)
    have HP : Hid (Pa (w3.setCell (⟨w.heap.size + 1, 1, none⟩ : Addr) (Value.slice (some ⟨gb, 0, none⟩) 1 cp)) gb s) := Lib.hid (Pa.set (Pa.mk hr.2.1 (hr.2.2 0 _ rfl) (hr.2.2 1 _ rfl) (G2.out.below HA.out.bel)) (by simp; omega) (by simp; omega) _)
    have HF : Hid (RF r w (w3.setCell (⟨w.heap.size + 1, 1, none⟩ : Addr) (Value.slice (some ⟨gb, 0, none⟩) 1 cp))) := Lib.hid (RF.new (G1.out.trans (RF.below lq HA.out.bel)) lt (by simp) _)
    have HF3 : Hid (RF r w w3) := Lib.hid (G1.out.trans (RF.below lq HA.out.bel))
    have HR3 := Rd4.below G3.out HA.out.bel
    have HP3 : Pa w3 gb s := Pa.mk hr.2.1 (hr.2.2 0 _ rfl) (hr.2.2 1 _ rfl) (G2.out.below HA.out.bel)
    clear hr
    go_wp2_with (first | (go_at_call 148; refine (is_e r g _ _ HR.out).mono ?_; rintro e w9 ⟨rfl, rfl⟩) | (refine wp_loop_unr 3 ?_; refine Unr.step ?_; intro U hU) | (refine Unr.step ?_; intro U hU))
    try simp only [Exit.inBlock, Exit.then]
    refine bodyPost_ret (v := .agg #[.bool true, .slice (some ⟨gb, 0, none⟩) 1 cp]) (by simp [results, Tryz.results150, go_sem, xa0, xa1, xa2, xa3, xb0, xb1, xb2, xb3]) rfl ⟨gb, cp, s, by simp, by (repeat' (first | refine RF.new ?_ lt (by first | (simp; done) | (simp; omega) | omega) _ | (refine RF.alloc ?_ lt _) | (refine RF.drew ?_ lt) | refine RF.set ?_ _ | exact Hid.out (by assumption) | exact RF.refl _ _)), (by repeat' (first | refine Rd4.setO ?_ (by first | (simp; done) | (simp; omega) | omega) _ | refine Rd4.below ?_ ((Below.refl _ _).alloc (Nat.le_refl _) _) | exact HR3)), by omega, by omega, by repeat' (first | refine Pa.set ?_ (by first | (simp; done) | (simp; omega) | omega) (by first | (simp; done) | (simp; omega) | omega) _ | exact HP3)⟩
end Go.Proofs.YtjelneeeijjpiaaGreatDoor
end
section
namespace Go.Proofs.YtjelneeeijjpiaaGreatDoor
open Go.RowKit
theorem RF.bel {r B : Nat} {w w' : World} (h : RF r w w') (hr : B ≤ r) (hB : B ≤ w.heap.size) : Below B w w' :=
  ⟨h.gr.os, h.gr.tape, h.gr.output, Nat.le_trans hB h.gr.size |> fun _ => by have := h.gr.size; omega, fun i hi => h.gr.block i (by omega) (by simp; omega)⟩
def ParseP (w : World) (e : Ending) (w' : World) : Prop := ∃ q c s, e = .returned (.tuple #[.agg #[.bool true, .slice (some ⟨q, 0, none⟩) 1 c], .agg #[.int .i64 0, .int .i64 0]]) ∧ w.heap.size ≤ q ∧ w.heap.size ≤ s ∧ Pa w' q s ∧ Below w.heap.size w w'
set_option maxRecDepth 100000 in
set_option maxHeartbeats 2000000 in
theorem parse_any  (w : World) : Calls Tryz.prog 100 #[.string ⟨#[36, 91, 48, 93]⟩] w fun e w' => ParseP w e w' := by
  go_enter Tryz.func100, Tryz.ntmps100
  go_wp2_with fail
  refine (lex_any _).mono ?_; rintro e w1 ⟨g, cap, rfl, hcap, hg, hk, hb1⟩
  have s1 := hb1.size; try simp at s1
  try (have l1_0_0_0 : w.heap.size < w1.heap.size := by omega)
  try (have l1_0_0_1 : w.heap.size < w1.heap.size + 1 := by omega)
  try (have l1_0_0_2 : w.heap.size < w1.heap.size + 1 + 1 := by omega)
  try (have l1_0_1_0 : w.heap.size + 1 < w1.heap.size := by omega)
  try (have l1_0_1_1 : w.heap.size + 1 < w1.heap.size + 1 := by omega)
  try (have l1_0_1_2 : w.heap.size + 1 < w1.heap.size + 1 + 1 := by omega)
  try (have e1_0_0_0 := hb1.cell (p := ⟨w.heap.size, 0, none⟩) (by first | (simp; done) | (simp; omega) | omega); simp [go_sem, *] at e1_0_0_0)
  try (have f1_0_0_0 := hb1.frozen (p := ⟨w.heap.size, 0, none⟩) (by first | (simp; done) | (simp; omega) | omega); simp [go_sem, *] at f1_0_0_0)
  try (have e1_0_0_1 := hb1.cell (p := ⟨w.heap.size, 1, none⟩) (by first | (simp; done) | (simp; omega) | omega); simp [go_sem, *] at e1_0_0_1)
  try (have f1_0_0_1 := hb1.frozen (p := ⟨w.heap.size, 1, none⟩) (by first | (simp; done) | (simp; omega) | omega); simp [go_sem, *] at f1_0_0_1)
  try (have e1_0_1_0 := hb1.cell (p := ⟨w.heap.size + 1, 0, none⟩) (by first | (simp; done) | (simp; omega) | omega); simp [go_sem, *] at e1_0_1_0)
  try (have f1_0_1_0 := hb1.frozen (p := ⟨w.heap.size + 1, 0, none⟩) (by first | (simp; done) | (simp; omega) | omega); simp [go_sem, *] at f1_0_1_0)
  try (have e1_0_1_1 := hb1.cell (p := ⟨w.heap.size + 1, 1, none⟩) (by first | (simp; done) | (simp; omega) | omega); simp [go_sem, *] at e1_0_1_1)
  try (have f1_0_1_1 := hb1.frozen (p := ⟨w.heap.size + 1, 1, none⟩) (by first | (simp; done) | (simp; omega) | omega); simp [go_sem, *] at f1_0_1_1)
  have HB1 := bel_step (w := w) (by (repeat' (first | exact Below.refl _ _ | exact Hid.out (by assumption) | refine Below.alloc ?_ (by first | (simp; done) | (simp; omega) | omega) _ | refine Below.setCell ?_ (by first | (simp; done) | (simp; omega) | omega) _ | refine below_drewN' ?_ _ | refine Below.drew ?_))) hb1
  clear hb1
  have hlt := hk.lt
  have hR0 : ∀ o, Rd0 ((w1.alloc o).alloc (Obj.cells #[.slice (some ⟨g, 0, none⟩) 4 cap, .int .i64 4, .int .i64 0, .int .i64 0, .int .i64 0] 260)) (w1.heap.size + 1) g cap := fun o => ⟨⟨by simp, by simp; omega, by omega, hcap, by simp [go_sem], by simp [go_sem], by simp [go_sem], by simp [go_sem], by simp [go_sem], by simp [go_sem], (Tk.below hk ((((Below.refl _ _).alloc (Nat.le_refl _) _).alloc (by simp) _))).c0, (Tk.below hk ((((Below.refl _ _).alloc (Nat.le_refl _) _).alloc (by simp) _))).c1, (Tk.below hk ((((Below.refl _ _).alloc (Nat.le_refl _) _).alloc (by simp) _))).c2, (Tk.below hk ((((Below.refl _ _).alloc (Nat.le_refl _) _).alloc (by simp) _))).c3, (Tk.below hk ((((Below.refl _ _).alloc (Nat.le_refl _) _).alloc (by simp) _))).c4⟩, (Tk.below hk ((((Below.refl _ _).alloc (Nat.le_refl _) _).alloc (by simp) _)))⟩
  go_wp2_with (first | (go_at_call 148; refine (is_s (w1.heap.size + 1) g _ _ _ _ _ _ _ true (by simp only [ByteArray.toList_eq]; decide) _ (hR0 _).1).mono ?_; rintro e w9 ⟨rfl, rfl⟩))
  refine (path_0 (w1.heap.size + 1) g cap _ (hR0 _)).mono ?_; rintro e w2 ⟨q, c, s, rfl, hf, hn, hq, hs, hP⟩
  have s2 := hf.gr.size; try simp at s2
  try (have l2_0 : w.heap.size < w2.heap.size := by omega)
  try (have l2_1 : w.heap.size < w2.heap.size + 1 := by omega)
  try (have l2_2 : w.heap.size < w2.heap.size + 1 + 1 := by omega)
  try (have lr2 : r < w2.heap.size := by omega)
  try (have e2_0 := hf.far (b := w.heap.size) (c := 0) (by first | (simp; done) | (simp; omega) | omega) (by omega); simp [go_sem, *] at e2_0)
  try (have f2_0 := hf.farz (b := w.heap.size) (c := 0) (by first | (simp; done) | (simp; omega) | omega) (by omega); simp [go_sem, *] at f2_0)
  try (have e2_1 := hf.far (b := w.heap.size) (c := 1) (by first | (simp; done) | (simp; omega) | omega) (by omega); simp [go_sem, *] at e2_1)
  try (have f2_1 := hf.farz (b := w.heap.size) (c := 1) (by first | (simp; done) | (simp; omega) | omega) (by omega); simp [go_sem, *] at f2_1)
  have s3 := hf.gr.size; try simp at s3
  try (have l3_0 : w.heap.size + 1 < w2.heap.size := by omega)
  try (have l3_1 : w.heap.size + 1 < w2.heap.size + 1 := by omega)
  try (have l3_2 : w.heap.size + 1 < w2.heap.size + 1 + 1 := by omega)
  try (have lr3 : r < w2.heap.size := by omega)
  try (have e3_0 := hf.far (b := w.heap.size + 1) (c := 0) (by first | (simp; done) | (simp; omega) | omega) (by omega); simp [go_sem, *] at e3_0)
  try (have f3_0 := hf.farz (b := w.heap.size + 1) (c := 0) (by first | (simp; done) | (simp; omega) | omega) (by omega); simp [go_sem, *] at f3_0)
  try (have e3_1 := hf.far (b := w.heap.size + 1) (c := 1) (by first | (simp; done) | (simp; omega) | omega) (by omega); simp [go_sem, *] at e3_1)
  try (have f3_1 := hf.farz (b := w.heap.size + 1) (c := 1) (by first | (simp; done) | (simp; omega) | omega) (by omega); simp [go_sem, *] at f3_1)
  have HB2 : Hid (Below w.heap.size w w2) := Lib.hid (Below.trans (by (repeat' (first | exact Below.refl _ _ | exact Hid.out (by assumption) | refine Below.alloc ?_ (by first | (simp; done) | (simp; omega) | omega) _ | refine Below.setCell ?_ (by first | (simp; done) | (simp; omega) | omega) _ | refine below_drewN' ?_ _ | refine Below.drew ?_))) (RF.bel hf (by omega) (by simp; omega)))
  clear hf
  have hn0 := hn.c2
  have lr2 := hn.lt
  have lr3 : w1.heap.size + 1 < w2.heap.size + 1 := by omega
  go_wp2_with (first | (go_at_call 151; refine (over_e (w1.heap.size + 1) g _ (hn.below ((Below.refl _ _).alloc (Nat.le_refl _) _))).mono ?_; rintro e w9 ⟨rfl, rfl⟩))
  try simp only [Exit.inBlock, Exit.then]
  refine bodyPost_ret (v := .tuple #[.agg #[.bool true, .slice (some ⟨q, 0, none⟩) 1 c], .agg #[.int .i64 0, .int .i64 0]]) (by simp [results, Tryz.results100, go_sem, *]) rfl ⟨q, c, s, by simp, by simp at hq; omega, by simp at hs; omega, ?_, by (repeat' (first | exact Below.refl _ _ | exact Hid.out (by assumption) | refine Below.alloc ?_ (by first | (simp; done) | (simp; omega) | omega) _ | refine Below.setCell ?_ (by first | (simp; done) | (simp; omega) | omega) _ | refine below_drewN' ?_ _ | refine Below.drew ?_))⟩
  simp at hq hs
  repeat' (first | refine Pa.set ?_ (by first | (simp; done) | (simp; omega) | omega) (by first | (simp; done) | (simp; omega) | omega) _ | refine Pa.below ?_ ((Below.refl _ _).alloc (Nat.le_refl _) _) | exact hP)
end Go.Proofs.YtjelneeeijjpiaaGreatDoor
end
section
set_option maxRecDepth 100000
namespace Go.Proofs.YtjelneeeijjpiaaGreatDoor.Tw
open Go.RowKit
theorem info47 : (Tryz.prog.info? 146).map (·.size) = some 2 := by kernel_rfl
theorem lies47 : liesAt Tryz.prog Tryz.prog.depth 332 (2 / Tryz.prog.cellsOf 332) 0 146 1 = true := by kernel_rfl
theorem info5b : (Tryz.prog.info? 5).map (fun i => (i.zero, i.size, i.bytes)) = some (some (.int .u8 0), 1, 1) := by kernel_rfl
theorem neB5 : (332 : TypeId) ≠ 5 := by decide
def SB (B b : Nat) (l : List UInt8) (w : World) : Prop := Lib.IsBuilderF 332 5 B b (Lib.byteCells l) w
def Keeps (B b : Nat) (w w' : World) : Prop := Below B w w' ∧ Lib.OthersKept 5 (some b) w w'
theorem Keeps.refl (B b : Nat) (w : World) : Keeps B b w w := ⟨Below.refl _ _, Lib.OthersKept.refl _ _ _⟩
theorem Keeps.trans {B b : Nat} {w w' w'' : World} (h : Keeps B b w w') (k : Keeps B b w' w'') : Keeps B b w w'' := ⟨h.1.trans k.1, h.2.trans k.2⟩
theorem check_fresh (b : Nat) (w : World) (h0 : w.cell? ⟨b, 0, none⟩ = some (.pointer none)) (hsh : w.shape? b = some (332, 2)) (hfz : w.frozen? ⟨b, 0, none⟩ = false) :
    Calls Tryz.prog 106 #[.pointer (some ⟨b, 0, none⟩)] w fun e w' => e = .returned (.tuple #[]) ∧ w' = w.setCell ⟨b, 0, none⟩ (.pointer (some ⟨b, 0, none⟩)) := by
  obtain ⟨j, hj, hjs⟩ := Option.map_eq_some_iff.1 info47
  go_enter Tryz.func106, Tryz.ntmps106
  go_wp2
  rw [Lib.run_to_unsafe w ⟨b, 0, none⟩ Tryz.underlying144 Tryz.underlying272 hj (by rw [hjs]; decide) hsh (Nat.zero_lt_succ 1)]
  simp only [Result.andThen]
  rw [Oper.upon_value]
  go_wp2
  rw [run_callFunc_extern Tryz.func157 (by kernel_rfl) (by kernel_rfl) (by kernel_rfl) (e := Extern.AbiNoEscape.same) (by kernel_rfl)]
  rw [Lib.run_noEscape]
  simp only [Result.andThen]
  rw [Oper.upon_value]
  go_wp2
  rw [Lib.run_from_unsafe w ⟨b, 0, none⟩ Tryz.underlying272 Tryz.underlying144 hj hsh lies47]
  simp only [Result.andThen]
  rw [Oper.upon_value]
  go_wp2
  go_end0
  exact ⟨rfl, rfl⟩
theorem check_used (b : Nat) (w : World) (h0 : w.cell? ⟨b, 0, none⟩ = some (.pointer (some ⟨b, 0, none⟩))) :
    Calls Tryz.prog 106 #[.pointer (some ⟨b, 0, none⟩)] w fun e w' => e = .returned (.tuple #[]) ∧ w' = w := by
  obtain ⟨j, hj, _⟩ := Option.map_eq_some_iff.1 info47
  go_enter Tryz.func106, Tryz.ntmps106
  go_wp2
  rw [Lib.run_neq_ptr_same w _ Tryz.underlying144 hj]
  go_wp2
  go_end0
  exact ⟨rfl, rfl⟩
theorem check_any (B b : Nat) (bs : List Value) (w : World) (h : Lib.IsBuilderF 332 5 B b bs w) :
    Calls Tryz.prog 106 #[.pointer (some ⟨b, 0, none⟩)] w fun e w' => e = .returned (.tuple #[]) ∧ (Lib.BuilderAtF 332 5 B b (.pointer (some ⟨b, 0, none⟩)) bs w' ∧ Below B w w' ∧ Lib.OthersKept 5 (some b) w w') := by
  rcases h with h | h
  · refine (check_fresh b w h.cell0 h.shape h.frozen0).mono ?_
    rintro e w' ⟨rfl, rfl⟩
    exact ⟨rfl, h.used _, (Below.refl B w).setCell (p := ⟨b, 0, none⟩) h.1 _, (Lib.OthersKept.refl _ _ w).setCell ⟨b, 0, none⟩ rfl _⟩
  · refine (check_used b w h.cell0).mono ?_
    rintro e w' ⟨rfl, rfl⟩
    exact ⟨rfl, h, Below.refl B _, Lib.OthersKept.refl _ _ _⟩
set_option maxHeartbeats 2000000 in
set_option maxRecDepth 100000 in
theorem writeByte_raw (B b : Nat) (bs : List Value) (c : Int) (w : World) (h : Lib.IsBuilderF 332 5 B b bs w) (hlen : bs.length + 1 ≤ 140737488355328) (_hBw : B ≤ w.heap.size) :
    Calls Tryz.prog 69 #[.pointer (some ⟨b, 0, none⟩), .int .u8 c] w fun e w' => e = .returned .nilIface ∧ (Lib.BuilderAtF 332 5 B b (.pointer (some ⟨b, 0, none⟩)) (bs ++ [.int .u8 c]) w' ∧ Below B w w' ∧ Lib.OthersKept 5 (some b) w w') := by
  obtain ⟨i0, hi, hz0, hz1, hz2⟩ := info_parts info5b
  go_enter Tryz.func69, Tryz.ntmps69
  go_wp2_with (go_at_call 106; refine (check_any B b bs _ h).mono ?_)
  rintro e w1 ⟨rfl, h1, hb1, hk1⟩
  obtain ⟨hB, v, hbk, hown, hne⟩ := h1
  have c0 : w1.cell? ⟨b, 0, none⟩ = some (.pointer (some ⟨b, 0, none⟩)) := by rw [Lib.cell_of_heap hbk]; rfl
  have c1 : w1.cell? ⟨b, 1, none⟩ = some v := by rw [Lib.cell_of_heap hbk]; rfl
  go_wp2_with (at_builtin; refine wpList_append_ownF _ rfl _ _ 29 rfl B 5 i0 (.int .u8 0) 1 1 Tryz.underlying29 hi hz0 hz1 hz2 rfl (by decide) _ _ _ rfl (hown.alloc _) ⟨w1.heap.size, 0, none⟩ 1 1 [.int .u8 c] rfl rfl ?c1 ?c2 ?c3 ?c4 ?c5 ?_)
  case c1 =>
    intro j u hj
    match j, hj with
    | 0, hj => simp at hj; subst hj; simp [Addr.add]
  case c2 => intro u hu; simp at hu; subst hu; rfl
  case c3 => unfold maxLen; omega
  case c4 => omega
  case c5 => have := hb1.size; simp; omega
  intro v' w2 hown' hgrow _
  have hlt : b < w1.heap.size := by
    rcases Nat.lt_or_ge b w1.heap.size with h' | h'
    · exact h'
    · simp [Array.getElem?_eq_none h'] at hbk
  have hb2 : w2.heap[b]? = some (.cells #[.pointer (some ⟨b, 0, none⟩), v] 332 (0, 0)) := by
    rw [hgrow.block b (by simp; omega) (fun e => hne e.symm), Lib.alloc_old w1 _ b hlt]
    exact hbk
  have d0 : w2.cell? ⟨b, 0, none⟩ = some (.pointer (some ⟨b, 0, none⟩)) := by rw [Lib.cell_of_heap hb2]; rfl
  have d1 : w2.cell? ⟨b, 1, none⟩ = some v := by rw [Lib.cell_of_heap hb2]; rfl
  have f1 : w2.frozen? ⟨b, 1, none⟩ = false := Lib.frozen_of_heap hb2 1
  obtain ⟨g, cap, rfl⟩ : ∃ g cap, v' = .slice (some ⟨g, 0, none⟩) (bs.length + 1) cap := by
    rcases hown'.2 with ⟨_, h0⟩ | ⟨g, cap, cur, fz, hv, _⟩
    · omega
    · exact ⟨g, cap, hv⟩
  go_wp2
  go_ret
  refine ⟨rfl, ?_, ?_, ((hk1.alloc _).grown hgrow (Lib.ownsRowF_kind (hown.alloc _))).setCell ⟨b, 1, none⟩ rfl _⟩
  · exact Lib.BuilderAtF.put (T := 332) (e := 5) hB hb2 (bs' := bs ++ [.int .u8 c]) (by simpa using hown') neB5
  · exact ((hb1.alloc (by have := hb1.size; omega) _).grown hgrow (by have := hb1.size; simp; omega) (fun k hk => (hown.lt k hk).1)).setCell (p := ⟨b, 1, none⟩) hB _
theorem byteCells_snoc (l : List UInt8) (c : Int) (h0 : 0 ≤ c) (h1 : c ≤ 255) : Lib.byteCells l ++ [.int .u8 c] = Lib.byteCells (l ++ [UInt8.ofNat c.toNat]) := by
  have e : ((UInt8.ofNat c.toNat).toNat : Int) = c := by rw [UInt8.toNat_ofNat', Nat.mod_eq_of_lt (by omega)]; omega
  simp only [Lib.byteCells, List.map_append, List.map_cons, List.map_nil, e]
theorem byteCells_len (l : List UInt8) : (Lib.byteCells l).length = l.length := by simp [Lib.byteCells]
theorem sb_writeByte (B b : Nat) (l : List UInt8) (c : Int) (w : World) (h : SB B b l w) (hlen : l.length ≤ 100000000) (hBw : B ≤ w.heap.size) (h0 : 0 ≤ c) (h1 : c ≤ 255) :
    Calls Tryz.prog 69 #[.pointer (some ⟨b, 0, none⟩), .int .u8 c] w fun e w' => e = .returned .nilIface ∧ SB B b (l ++ [UInt8.ofNat c.toNat]) w' ∧ Keeps B b w w' := by
  refine (writeByte_raw B b _ c w h (by rw [byteCells_len]; omega) hBw).mono ?_
  rintro e w' ⟨rfl, h1', h2, h3⟩
  rw [byteCells_snoc l c h0 h1] at h1'
  exact ⟨rfl, .inr h1', h2, h3⟩
theorem sb_writeU8 (B b : Nat) (l : List UInt8) (c : UInt8) (w : World) (h : SB B b l w) (hlen : l.length ≤ 100000000) (hBw : B ≤ w.heap.size) :
    Calls Tryz.prog 69 #[.pointer (some ⟨b, 0, none⟩), .int .u8 (c.toNat : Nat)] w fun e w' => e = .returned .nilIface ∧ SB B b (l ++ [c]) w' ∧ Keeps B b w w' := by
  have := sb_writeByte B b l (c.toNat : Nat) w h hlen hBw (by omega) (by have := c.toNat_lt; omega)
  simpa using this
set_option maxHeartbeats 2000000 in
set_option maxRecDepth 100000 in
theorem writeString_raw (B b : Nat) (bs : List Value) (s : ByteArray) (w : World) (h : Lib.IsBuilderF 332 5 B b bs w) (hlen : bs.length + s.size ≤ 140737488355328) (hBw : B ≤ w.heap.size) :
    Calls Tryz.prog 67 #[.pointer (some ⟨b, 0, none⟩), .string s] w fun e w' => e = .returned (.tuple #[.int .i64 s.size, .nilIface]) ∧ (Lib.BuilderAtF 332 5 B b (.pointer (some ⟨b, 0, none⟩)) (bs ++ Lib.strCells s) w' ∧ Below B w w' ∧ Lib.OthersKept 5 (some b) w w') := by
  obtain ⟨i0, hi, hz0, hz1, hz2⟩ := info_parts info5b
  go_enter Tryz.func67, Tryz.ntmps67
  go_wp2_with (go_at_call 106; refine (check_any B b bs _ h).mono ?_)
  rintro e w1 ⟨rfl, h1, hb1, hk1⟩
  obtain ⟨hB, v, hbk, hown, hne⟩ := h1
  have c0 : w1.cell? ⟨b, 0, none⟩ = some (.pointer (some ⟨b, 0, none⟩)) := by rw [Lib.cell_of_heap hbk]; rfl
  have c1 : w1.cell? ⟨b, 1, none⟩ = some v := by rw [Lib.cell_of_heap hbk]; rfl
  go_wp2_with (at_builtin; refine Lib.wpList_append_own_stringF _ rfl _ _ 29 9 rfl B 5 i0 Tryz.underlying29 Tryz.underlying9 hi hz0 hz1 hz2 _ _ _ rfl hown s rfl ?c3 ?c4 ?c5 ?_)
  case c3 => unfold maxLen; omega
  case c4 => omega
  case c5 => have := hb1.size; omega
  intro v' w2 hown' hgrow _
  have hlt : b < w1.heap.size := by
    rcases Nat.lt_or_ge b w1.heap.size with h' | h'
    · exact h'
    · simp [Array.getElem?_eq_none h'] at hbk
  have hb2 : w2.heap[b]? = some (.cells #[.pointer (some ⟨b, 0, none⟩), v] 332 (0, 0)) := by
    rw [hgrow.block b hlt (fun e => hne e.symm)]
    exact hbk
  have d0 : w2.cell? ⟨b, 0, none⟩ = some (.pointer (some ⟨b, 0, none⟩)) := by rw [Lib.cell_of_heap hb2]; rfl
  have d1 : w2.cell? ⟨b, 1, none⟩ = some v := by rw [Lib.cell_of_heap hb2]; rfl
  have f1 : w2.frozen? ⟨b, 1, none⟩ = false := Lib.frozen_of_heap hb2 1
  obtain ⟨ao, n', cap, rfl⟩ : ∃ ao n' cap, v' = .slice ao n' cap := by
    rcases hown'.2 with ⟨hv, _⟩ | ⟨g, cap, cur, fz, hv, _⟩
    · exact ⟨_, _, _, hv⟩
    · exact ⟨_, _, _, hv⟩
  go_wp2
  go_ret2
  refine ⟨rfl, ?_, ?_, (hk1.grown hgrow (Lib.ownsRowF_kind hown)).setCell ⟨b, 1, none⟩ rfl _⟩
  · exact Lib.BuilderAtF.put (T := 332) (e := 5) hB hb2 (bs' := bs ++ Lib.strCells s) (by simpa [Lib.strCells_length] using hown') neB5
  · exact (hb1.grown hgrow (by have := hb1.size; omega) (fun k hk => (hown.lt k hk).1)).setCell (p := ⟨b, 1, none⟩) hB _
theorem sb_writeString (B b : Nat) (l : List UInt8) (s : ByteArray) (w : World) (h : SB B b l w) (hlen : l.length ≤ 100000000) (hs : s.size ≤ 100000000) (hBw : B ≤ w.heap.size) :
    Calls Tryz.prog 67 #[.pointer (some ⟨b, 0, none⟩), .string s] w fun e w' => e = .returned (.tuple #[.int .i64 s.size, .nilIface]) ∧ SB B b (l ++ s.data.toList) w' ∧ Keeps B b w w' := by
  refine (writeString_raw B b _ s w h (by rw [byteCells_len]; omega) hBw).mono ?_
  rintro e w' ⟨rfl, h1', h2, h3⟩
  have e1 : Lib.byteCells l ++ Lib.strCells s = Lib.byteCells (l ++ s.data.toList) := by simp [Lib.byteCells, Lib.strCells]
  rw [e1] at h1'
  exact ⟨rfl, .inr h1', h2, h3⟩
theorem cells5 : Tryz.prog.cellsOf 5 = 1 := by kernel_rfl
set_option maxHeartbeats 2000000 in
theorem sw_string (B b : Nat) (l : List UInt8) (w : World) (h : SB B b l w) (h0 : l ≠ []) :
    Calls Tryz.prog 70 #[.pointer (some ⟨b, 0, none⟩)] w fun e w' => e = .returned (.string ⟨l.toArray⟩) ∧ Below B w w' := by
  obtain ⟨p, hAt⟩ : ∃ p, Lib.BuilderAtF 332 5 B b p (Lib.byteCells l) w := h.elim (fun h => ⟨_, h⟩) (fun h => ⟨_, h⟩)
  obtain ⟨hB, v, hbk, hown, -⟩ := hAt
  have hl0 : l.length ≠ 0 := by simpa using h0
  rw [Lib.byteCells_length] at hown
  have hcells := fun g => hown.cells (g := g)
  rcases hown.2 with ⟨_, hz⟩ | ⟨g, cap, cur, fz, rfl, hbg, hg, hfz, hnc, hcm, hcs, -⟩
  · exact absurd hz hl0
  have hb' : w.drew.heap[b]? = some (.cells #[p, .slice (some ⟨g, 0, none⟩) l.length cap] 332 (0, 0)) := hbk
  have hg' : w.drew.heap[g]? = some (.cells cur 5 fz) := hg
  have c1 : w.drew.cell? ⟨b, 1, none⟩ = some (.slice (some ⟨g, 0, none⟩) l.length cap) := by rw [Lib.cell_of_heap hb']; rfl
  have hSD : (Builtin.unsafeSliceData_ #[29] 206 #[.slice (some ⟨g, 0, none⟩) l.length cap]).run Tryz.prog w.drew = .ok (.pointer (some ⟨g, 0, none⟩)) w.drew := Lib.run_unsafeSliceData_row _ _ _ _ _ _ (by omega)
  have hUS : (Builtin.unsafeString_ #[206, 3] 9 #[.pointer (some ⟨g, 0, none⟩), .int .i64 l.length]).run Tryz.prog w.drew = .ok (.string ⟨l.toArray⟩) (w.drew.freeze ⟨g, 0, none⟩ l.length) :=
    Lib.run_unsafeString_row w.drew 206 3 9 5 Tryz.underlying206 cells5 g cur.size (by simp [World.shape?, hg']) l h0 (by omega) (by unfold maxLen at hcm; omega) fun j x hx => hcells g rfl j (.int .u8 x.toNat) (by simp [Lib.byteCells, hx])
  have mixed : Tryz.prog.follows .mixedOrders = true := by kernel_rfl
  go_enter Tryz.func70, Tryz.ntmps70
  go_wp2
  go_region_o
  all_goals (go_wp2; go_ret; exact ⟨rfl, Lib.below_freeze (Below.drew (Below.refl B w)) (p := ⟨g, 0, none⟩) hbg _⟩)
theorem sw_new (B : Nat) (w : World) (hB : B ≤ w.heap.size) : SB B w.heap.size [] (w.alloc (.cells #[.pointer none, .slice none 0 0] 332)) := .inl ⟨hB, .slice none 0 0, heap_alloc_new w _, World.ownsRowF_nil _ _ _ _, by simp [Value.ownBlock]⟩
end Go.Proofs.YtjelneeeijjpiaaGreatDoor.Tw
end
