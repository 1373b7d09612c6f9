/- TopText: walks and plain laws, part 25: lemmas on what the functions that the law comes to compute. -/
import Derived.Test.YtjelneeeijjpiaaGreatDoorG13
import Derived.Test.YtjelneeeijjpiaaGreatDoorG04
import Derived.Test.YtjelneeeijjpiaaGreatDoorG11
set_option linter.unusedVariables false
set_option linter.unusedSimpArgs false
section
namespace Go.Proofs.YtjelneeeijjpiaaGreatDoor
open Go.RowKit
theorem itoa_0 (w : World) : Calls Tryz.prog 57 #[.int .i64 0] w fun e w' => e = .returned (.string ⟨#[48]⟩) ∧ w = w' := by
  have := Tryz.strconv_Itoa_small 0 (by decide) w
  rw [show (Lib.decDigits 0).toArray = #[48] by (first | decide +kernel | (simp [Lib.decDigits]; done) | (rw [Lib.decDigits]; rfl))] at this
  exact this.mono fun e w' ⟨h1, h2⟩ => ⟨h1, h2.symm⟩
set_option maxRecDepth 100000 in
set_option maxHeartbeats 2000000 in
theorem step_1 (p n L : Nat) (T V : ByteArray) (hD : Doc T V n L) (w : World) (h : Ix w p T n) : Calls Tryz.prog 188 #[.agg #[.pointer (some ⟨p, 0, none⟩), .int .i64 1]] w fun e w' => e = .returned (.string ⟨#[91, 48, 93]⟩) ∧ Below w.heap.size w w' := by
  go_enter Tryz.func188, Tryz.ntmps188
  go_wp2_with fail
  refine (key_1 p n L T V hD _ (h.below (by (repeat' (first | refine Below.setCell ?_ (by first | (simp; done) | (simp; omega) | omega) _ | refine Below.alloc ?_ (by first | (simp; done) | (simp; omega) | omega) _ | refine below_drewN' ?_ _ | refine Below.drew ?_ | exact Hid.out (by assumption) | exact Below.refl _ _))))).mono ?_; rintro e w1 ⟨rfl, hb1⟩
  have s1 := hb1.size; try simp at s1
  try (have l1_0_0_0 : w.heap.size < w1.heap.size := by omega)
  try (have l1_0_0_1 : w.heap.size < w1.heap.size + 1 := by omega)
  try (have l1_0_0_2 : w.heap.size < w1.heap.size + 1 + 1 := by omega)
  try (have e1_0_0_0 := hb1.cell (p := ⟨w.heap.size, 0, none⟩) (by first | (simp; done) | (simp; omega) | omega); simp [go_sem, *] at e1_0_0_0)
  try (have f1_0_0_0 := hb1.frozen (p := ⟨w.heap.size, 0, none⟩) (by first | (simp; done) | (simp; omega) | omega); simp [go_sem, *] at f1_0_0_0)
  try (have e1_0_0_1 := hb1.cell (p := ⟨w.heap.size, 1, none⟩) (by first | (simp; done) | (simp; omega) | omega); simp [go_sem, *] at e1_0_0_1)
  try (have f1_0_0_1 := hb1.frozen (p := ⟨w.heap.size, 1, none⟩) (by first | (simp; done) | (simp; omega) | omega); simp [go_sem, *] at f1_0_0_1)
  have HB1 := bel_step (w := w) (by (repeat' (first | refine Below.setCell ?_ (by first | (simp; done) | (simp; omega) | omega) _ | refine Below.alloc ?_ (by first | (simp; done) | (simp; omega) | omega) _ | refine below_drewN' ?_ _ | refine Below.drew ?_ | exact Hid.out (by assumption) | exact Below.refl _ _))) hb1
  clear hb1
  go_wp2_with fail
  refine (place_1 p n L T V hD _ (h.below (by (repeat' (first | refine Below.setCell ?_ (by first | (simp; done) | (simp; omega) | omega) _ | refine Below.alloc ?_ (by first | (simp; done) | (simp; omega) | omega) _ | refine below_drewN' ?_ _ | refine Below.drew ?_ | exact Hid.out (by assumption) | exact Below.refl _ _))))).mono ?_; rintro e w2 ⟨rfl, hb2⟩
  have s2 := hb2.size; try simp at s2
  try (have l2_0_0_0 : w.heap.size < w2.heap.size := by omega)
  try (have l2_0_0_1 : w.heap.size < w2.heap.size + 1 := by omega)
  try (have l2_0_0_2 : w.heap.size < w2.heap.size + 1 + 1 := by omega)
  try (have e2_0_0_0 := hb2.cell (p := ⟨w.heap.size, 0, none⟩) (by first | (simp; done) | (simp; omega) | omega); simp [go_sem, *] at e2_0_0_0)
  try (have f2_0_0_0 := hb2.frozen (p := ⟨w.heap.size, 0, none⟩) (by first | (simp; done) | (simp; omega) | omega); simp [go_sem, *] at f2_0_0_0)
  try (have e2_0_0_1 := hb2.cell (p := ⟨w.heap.size, 1, none⟩) (by first | (simp; done) | (simp; omega) | omega); simp [go_sem, *] at e2_0_0_1)
  try (have f2_0_0_1 := hb2.frozen (p := ⟨w.heap.size, 1, none⟩) (by first | (simp; done) | (simp; omega) | omega); simp [go_sem, *] at f2_0_0_1)
  have HB2 := bel_step (w := w) (by (repeat' (first | refine Below.setCell ?_ (by first | (simp; done) | (simp; omega) | omega) _ | refine Below.alloc ?_ (by first | (simp; done) | (simp; omega) | omega) _ | refine below_drewN' ?_ _ | refine Below.drew ?_ | exact Hid.out (by assumption) | exact Below.refl _ _))) hb2
  clear hb2
  go_wp2_with (first | (go_at_call 57; refine (itoa_0 _).mono ?_; rintro e w9 ⟨rfl, rfl⟩))
  try simp only [Exit.inBlock, Exit.then]
  refine bodyPost_ret (v := .string ⟨#[91, 48, 93]⟩) (by simp [results, Tryz.results188, go_sem]; first | done | decide | rfl) rfl ⟨rfl, by (repeat' (first | refine Below.setCell ?_ (by first | (simp; done) | (simp; omega) | omega) _ | refine Below.alloc ?_ (by first | (simp; done) | (simp; omega) | omega) _ | refine below_drewN' ?_ _ | refine Below.drew ?_ | exact Hid.out (by assumption) | exact Below.refl _ _))⟩
end Go.Proofs.YtjelneeeijjpiaaGreatDoor
end
section
namespace Go.Proofs.YtjelneeeijjpiaaGreatDoor
open Go.RowKit
theorem info9 : (Tryz.prog.info? 9).map (fun i => (i.zero, i.size, i.bytes)) = some (some (.string ⟨#[]⟩), 1, 16) := by kernel_rfl
theorem join_1 (g c : Nat) (w : World) (h0 : True) (hg : g < w.heap.size) (hc : 0 + 1 ≤ c) (hx : w.cell? ⟨g, 0, none⟩ = some (.string ⟨#[91, 48, 93]⟩)) : Calls Tryz.prog 190 #[.slice (some ⟨g, 0, none⟩) 1 c, .string ⟨#[]⟩] w fun e w' => e = .returned (.string ⟨#[91, 48, 93]⟩) ∧ Below w.heap.size w w' :=
  Tryz.strings_Join g 0 c [⟨#[91, 48, 93]⟩] ⟨#[]⟩ w (fun j x hj => by
    cases j with
    | zero => simp at hj; subst hj; simpa using hx
    | succ j => simp at hj) hg (by simp) (by simpa using hc) (by decide)
set_option maxRecDepth 100000 in
theorem rev_1 (a : Addr) (c : Nat) (w : World) : Calls Tryz.prog 189 #[.slice (some a) 1 c] w fun e w' => e = .returned (.tuple #[]) ∧ w = w' := by
  go_enter Tryz.func189, Tryz.ntmps189
  go_wp2_with (first | (refine wp_loop_unr 3 ?_; refine Unr.step ?_; intro U hU) | (refine Unr.step ?_; intro U hU))
  refine bodyPost_end (v := .tuple #[]) (by simp [results, Tryz.results189, go_sem]) rfl ⟨rfl, rfl⟩
set_option maxRecDepth 100000 in
set_option maxHeartbeats 800000 in
theorem path_1 (p n L : Nat) (T V : ByteArray) (hD : Doc T V n L) (w : World) (h : Ix w p T n) : Calls Tryz.prog 142 #[.agg #[.pointer (some ⟨p, 0, none⟩), .int .i64 1]] w fun e w' => e = .returned (.string ⟨#[36, 91, 48, 93]⟩) ∧ Below w.heap.size w w' := by
  obtain ⟨i0, hi0, hz0, hs0, hb0⟩ := info_parts info9
  go_enter Tryz.func142, Tryz.ntmps142
  go_wp2_with (first | (refine wp_loop_unr 3 ?_; refine Unr.step ?_; intro U hU) | (refine Unr.step ?_; intro U hU))
  refine (parent_1 p n L T V hD _ (h.below (by (repeat' (first | refine Below.setCell ?_ (by first | (simp; done) | (simp; omega) | omega | (simp [World.setCell]; omega)) _ | refine Below.alloc ?_ (by first | (simp; done) | (simp; omega) | omega | (simp [World.setCell]; omega)) _ | refine below_drewN' ?_ _ | refine Below.drew ?_ | exact Hid.out (by assumption) | exact Below.refl _ _))))).mono ?_; rintro e w1 ⟨rfl, hb1⟩
  have s1 := hb1.size; try simp at s1
  try (have l1_0_0_0 : w.heap.size < w1.heap.size := by omega)
  try (have l1_0_0_1 : w.heap.size < w1.heap.size + 1 := by omega)
  try (have l1_0_0_2 : w.heap.size < w1.heap.size + 1 + 1 := by omega)
  try (have l1_0_1_0 : w.heap.size + 1 < w1.heap.size := by omega)
  try (have l1_0_1_1 : w.heap.size + 1 < w1.heap.size + 1 := by omega)
  try (have l1_0_1_2 : w.heap.size + 1 < w1.heap.size + 1 + 1 := by omega)
  try (have e1_0_0_0 := hb1.cell (p := ⟨w.heap.size, 0, none⟩) (by first | (simp; done) | (simp; omega) | omega | (simp [World.setCell]; omega)); simp [go_sem, *] at e1_0_0_0)
  try (have f1_0_0_0 := hb1.frozen (p := ⟨w.heap.size, 0, none⟩) (by first | (simp; done) | (simp; omega) | omega | (simp [World.setCell]; omega)); simp [go_sem, *] at f1_0_0_0)
  try (have e1_0_0_1 := hb1.cell (p := ⟨w.heap.size, 1, none⟩) (by first | (simp; done) | (simp; omega) | omega | (simp [World.setCell]; omega)); simp [go_sem, *] at e1_0_0_1)
  try (have f1_0_0_1 := hb1.frozen (p := ⟨w.heap.size, 1, none⟩) (by first | (simp; done) | (simp; omega) | omega | (simp [World.setCell]; omega)); simp [go_sem, *] at f1_0_0_1)
  try (have e1_0_1_0 := hb1.cell (p := ⟨w.heap.size + 1, 0, none⟩) (by first | (simp; done) | (simp; omega) | omega | (simp [World.setCell]; omega)); simp [go_sem, *] at e1_0_1_0)
  try (have f1_0_1_0 := hb1.frozen (p := ⟨w.heap.size + 1, 0, none⟩) (by first | (simp; done) | (simp; omega) | omega | (simp [World.setCell]; omega)); simp [go_sem, *] at f1_0_1_0)
  try (have e1_0_1_1 := hb1.cell (p := ⟨w.heap.size + 1, 1, none⟩) (by first | (simp; done) | (simp; omega) | omega | (simp [World.setCell]; omega)); simp [go_sem, *] at e1_0_1_1)
  try (have f1_0_1_1 := hb1.frozen (p := ⟨w.heap.size + 1, 1, none⟩) (by first | (simp; done) | (simp; omega) | omega | (simp [World.setCell]; omega)); simp [go_sem, *] at f1_0_1_1)
  have HB1 := bel_step (w := w) (by (repeat' (first | refine Below.setCell ?_ (by first | (simp; done) | (simp; omega) | omega | (simp [World.setCell]; omega)) _ | refine Below.alloc ?_ (by first | (simp; done) | (simp; omega) | omega | (simp [World.setCell]; omega)) _ | refine below_drewN' ?_ _ | refine Below.drew ?_ | exact Hid.out (by assumption) | exact Below.refl _ _))) hb1
  clear hb1
  go_wp2_with (first | (refine wp_loop_unr 3 ?_; refine Unr.step ?_; intro U hU) | (refine Unr.step ?_; intro U hU))
  refine (step_1 p n L T V hD _ (h.below (by (repeat' (first | refine Below.setCell ?_ (by first | (simp; done) | (simp; omega) | omega | (simp [World.setCell]; omega)) _ | refine Below.alloc ?_ (by first | (simp; done) | (simp; omega) | omega | (simp [World.setCell]; omega)) _ | refine below_drewN' ?_ _ | refine Below.drew ?_ | exact Hid.out (by assumption) | exact Below.refl _ _))))).mono ?_; rintro e w2 ⟨rfl, hb2⟩
  have s2 := hb2.size; try simp at s2
  try (have l2_0_0_0 : w.heap.size < w2.heap.size := by omega)
  try (have l2_0_0_1 : w.heap.size < w2.heap.size + 1 := by omega)
  try (have l2_0_0_2 : w.heap.size < w2.heap.size + 1 + 1 := by omega)
  try (have l2_1_0_0 : w1.heap.size < w2.heap.size := by omega)
  try (have l2_1_0_1 : w1.heap.size < w2.heap.size + 1 := by omega)
  try (have l2_1_0_2 : w1.heap.size < w2.heap.size + 1 + 1 := by omega)
  try (have e2_0_0_0 := hb2.cell (p := ⟨w.heap.size, 0, none⟩) (by first | (simp; done) | (simp; omega) | omega | (simp [World.setCell]; omega)); simp [go_sem, *] at e2_0_0_0)
  try (have f2_0_0_0 := hb2.frozen (p := ⟨w.heap.size, 0, none⟩) (by first | (simp; done) | (simp; omega) | omega | (simp [World.setCell]; omega)); simp [go_sem, *] at f2_0_0_0)
  try (have e2_0_0_1 := hb2.cell (p := ⟨w.heap.size, 1, none⟩) (by first | (simp; done) | (simp; omega) | omega | (simp [World.setCell]; omega)); simp [go_sem, *] at e2_0_0_1)
  try (have f2_0_0_1 := hb2.frozen (p := ⟨w.heap.size, 1, none⟩) (by first | (simp; done) | (simp; omega) | omega | (simp [World.setCell]; omega)); simp [go_sem, *] at f2_0_0_1)
  try (have e2_1_0_0 := hb2.cell (p := ⟨w1.heap.size, 0, none⟩) (by first | (simp; done) | (simp; omega) | omega | (simp [World.setCell]; omega)); simp [go_sem, *] at e2_1_0_0)
  try (have f2_1_0_0 := hb2.frozen (p := ⟨w1.heap.size, 0, none⟩) (by first | (simp; done) | (simp; omega) | omega | (simp [World.setCell]; omega)); simp [go_sem, *] at f2_1_0_0)
  try (have e2_1_0_1 := hb2.cell (p := ⟨w1.heap.size, 1, none⟩) (by first | (simp; done) | (simp; omega) | omega | (simp [World.setCell]; omega)); simp [go_sem, *] at e2_1_0_1)
  try (have f2_1_0_1 := hb2.frozen (p := ⟨w1.heap.size, 1, none⟩) (by first | (simp; done) | (simp; omega) | omega | (simp [World.setCell]; omega)); simp [go_sem, *] at f2_1_0_1)
  have HB2 := bel_step (w := w) (by (repeat' (first | refine Below.setCell ?_ (by first | (simp; done) | (simp; omega) | omega | (simp [World.setCell]; omega)) _ | refine Below.alloc ?_ (by first | (simp; done) | (simp; omega) | omega | (simp [World.setCell]; omega)) _ | refine below_drewN' ?_ _ | refine Below.drew ?_ | exact Hid.out (by assumption) | exact Below.refl _ _))) hb2
  clear hb2
  go_wp2_with (first | (at_builtin; refine wpList_push rfl _ _ 30 rfl 9 i0 _ 1 16 Tryz.underlying30 hi0 hz0 hs0 hb0 rfl (by omega) (Acc.nil (Below.refl _ _) 9 1) rfl rfl (by simp) rfl rfl (by omega) (by omega) ?_; intro gl cl w3 hA; have hb3 := hA.bel; have s3 := hb3.size; try (have l3_0_0_0 : w.heap.size < w3.heap.size := by omega); try (have l3_0_0_1 : w.heap.size < w3.heap.size + 1 := by omega); try (have l3_0_0_2 : w.heap.size < w3.heap.size + 1 + 1 := by omega); try (have l3_1_0_0 : w1.heap.size < w3.heap.size := by omega); try (have l3_1_0_1 : w1.heap.size < w3.heap.size + 1 := by omega); try (have l3_1_0_2 : w1.heap.size < w3.heap.size + 1 + 1 := by omega); try (have e3_0_0_0 := hb3.cell (p := ⟨w.heap.size, 0, none⟩) (by first | (simp; done) | (simp; omega) | omega | (simp [World.setCell]; omega)); simp [go_sem, *] at e3_0_0_0); try (have f3_0_0_0 := hb3.frozen (p := ⟨w.heap.size, 0, none⟩) (by first | (simp; done) | (simp; omega) | omega | (simp [World.setCell]; omega)); simp [go_sem, *] at f3_0_0_0); try (have e3_0_0_1 := hb3.cell (p := ⟨w.heap.size, 1, none⟩) (by first | (simp; done) | (simp; omega) | omega | (simp [World.setCell]; omega)); simp [go_sem, *] at e3_0_0_1); try (have f3_0_0_1 := hb3.frozen (p := ⟨w.heap.size, 1, none⟩) (by first | (simp; done) | (simp; omega) | omega | (simp [World.setCell]; omega)); simp [go_sem, *] at f3_0_0_1); try (have e3_1_0_0 := hb3.cell (p := ⟨w1.heap.size, 0, none⟩) (by first | (simp; done) | (simp; omega) | omega | (simp [World.setCell]; omega)); simp [go_sem, *] at e3_1_0_0); try (have f3_1_0_0 := hb3.frozen (p := ⟨w1.heap.size, 0, none⟩) (by first | (simp; done) | (simp; omega) | omega | (simp [World.setCell]; omega)); simp [go_sem, *] at f3_1_0_0); try (have e3_1_0_1 := hb3.cell (p := ⟨w1.heap.size, 1, none⟩) (by first | (simp; done) | (simp; omega) | omega | (simp [World.setCell]; omega)); simp [go_sem, *] at e3_1_0_1); try (have f3_1_0_1 := hb3.frozen (p := ⟨w1.heap.size, 1, none⟩) (by first | (simp; done) | (simp; omega) | omega | (simp [World.setCell]; omega)); simp [go_sem, *] at f3_1_0_1); have HB3 := bel_step (w := w) (by (repeat' (first | refine Below.setCell ?_ (by first | (simp; done) | (simp; omega) | omega | (simp [World.setCell]; omega)) _ | refine Below.alloc ?_ (by first | (simp; done) | (simp; omega) | omega | (simp [World.setCell]; omega)) _ | refine below_drewN' ?_ _ | refine Below.drew ?_ | exact Hid.out (by assumption) | exact Below.refl _ _))) hb3; have hcl := hA.cap; have gl1 := hA.row.1; have gl2 := hA.row.2.1; have gl3 := hA.row.2.2 0 _ rfl; have gne : ¬ gl = w.heap.size := (by omega); have gne2 : ¬ w.heap.size = gl := (by omega); have glt1 : gl < w3.heap.size + 1 := (by omega); clear hA hb3) | (refine wp_loop_unr 3 ?_; refine Unr.step ?_; intro U hU) | (refine Unr.step ?_; intro U hU))
  refine (parent_r p n L T V hD _ (h.below (by (repeat' (first | refine Below.setCell ?_ (by first | (simp; done) | (simp; omega) | omega | (simp [World.setCell]; omega)) _ | refine Below.alloc ?_ (by first | (simp; done) | (simp; omega) | omega | (simp [World.setCell]; omega)) _ | refine below_drewN' ?_ _ | refine Below.drew ?_ | exact Hid.out (by assumption) | exact Below.refl _ _))))).mono ?_; rintro e w4 ⟨rfl, hb4⟩
  have s4 := hb4.size; try simp at s4
  try (have l4_0_0_0 : w.heap.size < w4.heap.size := by omega)
  try (have l4_0_0_1 : w.heap.size < w4.heap.size + 1 := by omega)
  try (have l4_0_0_2 : w.heap.size < w4.heap.size + 1 + 1 := by omega)
  try (have l4_3_0_0 : w3.heap.size < w4.heap.size := by omega)
  try (have l4_3_0_1 : w3.heap.size < w4.heap.size + 1 := by omega)
  try (have l4_3_0_2 : w3.heap.size < w4.heap.size + 1 + 1 := by omega)
  try (have e4_0_0_0 := hb4.cell (p := ⟨w.heap.size, 0, none⟩) (by first | (simp; done) | (simp; omega) | omega | (simp [World.setCell]; omega)); simp [go_sem, *] at e4_0_0_0)
  try (have f4_0_0_0 := hb4.frozen (p := ⟨w.heap.size, 0, none⟩) (by first | (simp; done) | (simp; omega) | omega | (simp [World.setCell]; omega)); simp [go_sem, *] at f4_0_0_0)
  try (have e4_0_0_1 := hb4.cell (p := ⟨w.heap.size, 1, none⟩) (by first | (simp; done) | (simp; omega) | omega | (simp [World.setCell]; omega)); simp [go_sem, *] at e4_0_0_1)
  try (have f4_0_0_1 := hb4.frozen (p := ⟨w.heap.size, 1, none⟩) (by first | (simp; done) | (simp; omega) | omega | (simp [World.setCell]; omega)); simp [go_sem, *] at f4_0_0_1)
  try (have e4_3_0_0 := hb4.cell (p := ⟨w3.heap.size, 0, none⟩) (by first | (simp; done) | (simp; omega) | omega | (simp [World.setCell]; omega)); simp [go_sem, *] at e4_3_0_0)
  try (have f4_3_0_0 := hb4.frozen (p := ⟨w3.heap.size, 0, none⟩) (by first | (simp; done) | (simp; omega) | omega | (simp [World.setCell]; omega)); simp [go_sem, *] at f4_3_0_0)
  try (have e4_3_0_1 := hb4.cell (p := ⟨w3.heap.size, 1, none⟩) (by first | (simp; done) | (simp; omega) | omega | (simp [World.setCell]; omega)); simp [go_sem, *] at e4_3_0_1)
  try (have f4_3_0_1 := hb4.frozen (p := ⟨w3.heap.size, 1, none⟩) (by first | (simp; done) | (simp; omega) | omega | (simp [World.setCell]; omega)); simp [go_sem, *] at f4_3_0_1)
  have HB4 := bel_step (w := w) (by (repeat' (first | refine Below.setCell ?_ (by first | (simp; done) | (simp; omega) | omega | (simp [World.setCell]; omega)) _ | refine Below.alloc ?_ (by first | (simp; done) | (simp; omega) | omega | (simp [World.setCell]; omega)) _ | refine below_drewN' ?_ _ | refine Below.drew ?_ | exact Hid.out (by assumption) | exact Below.refl _ _))) hb4
  have cg := hb4.cell (p := ⟨gl, 0, none⟩) (by first | (simp; done) | (simp; omega) | omega | (simp [World.setCell]; omega))
  simp [go_sem, *] at cg
  have glt4 : gl < w4.heap.size := by omega
  have gne3 : ¬ w3.heap.size = gl := by omega
  have gne4 : ¬ gl = w3.heap.size := by omega
  clear hb4
  go_wp2_with (first | (go_at_call 189; refine (rev_1 _ _ _).mono ?_; rintro e w9 ⟨rfl, rfl⟩) | (refine wp_loop_unr 3 ?_; refine Unr.step ?_; intro U hU) | (refine Unr.step ?_; intro U hU))
  refine (join_1 gl cl _ (by simp) (by first | (simp [World.setCell]; omega) | omega) hcl (by simp [go_sem, *])).mono ?_; rintro e w5 ⟨rfl, hb5⟩
  have HB5 := bel_step (w := w) (by (repeat' (first | refine Below.setCell ?_ (by first | (simp; done) | (simp; omega) | omega | (simp [World.setCell]; omega)) _ | refine Below.alloc ?_ (by first | (simp; done) | (simp; omega) | omega | (simp [World.setCell]; omega)) _ | refine below_drewN' ?_ _ | refine Below.drew ?_ | exact Hid.out (by assumption) | exact Below.refl _ _))) hb5
  clear hb5
  go_wp2_with fail
  try simp only [Exit.inBlock, Exit.then]
  refine bodyPost_ret (v := .string ⟨#[36, 91, 48, 93]⟩) (by simp [results, Tryz.results142, go_sem]; first | done | decide | rfl) rfl ⟨rfl, by (repeat' (first | refine Below.setCell ?_ (by first | (simp; done) | (simp; omega) | omega | (simp [World.setCell]; omega)) _ | refine Below.alloc ?_ (by first | (simp; done) | (simp; omega) | omega | (simp [World.setCell]; omega)) _ | refine below_drewN' ?_ _ | refine Below.drew ?_ | exact Hid.out (by assumption) | exact Below.refl _ _))⟩
end Go.Proofs.YtjelneeeijjpiaaGreatDoor
end
