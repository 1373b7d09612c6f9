/- TopText: walks and plain laws, part 38: lemmas on what the functions that the law comes to compute. -/
import Derived.Test.YtjelneeeijjpiaaGreatDoorG17
import Derived.Test.YtjelneeeijjpiaaGreatDoorG37
import Derived.Test.YtjelneeeijjpiaaGreatDoorG05
set_option linter.unusedVariables false
set_option linter.unusedSimpArgs false
section
namespace Go.Proofs.YtjelneeeijjpiaaGreatDoor
open Go.RowKit
set_option maxRecDepth 100000 in
set_option maxHeartbeats 2000000 in
theorem do_text (p n L : Nat) (T V : ByteArray) (hD : Doc T V n L) (hV : 0 < V.size) (hc : ((V[0]'hV).toNat : Int) = 34) (t : ByteArray) (hT : TxtP V t) (ht : t.size ≤ 100000) (s : Nat) (w : World) (hX : Ix w p T n) (hS : Se w s p n) : Calls Tryz.prog 13 #[.agg #[.pointer (some ⟨s, 0, none⟩)], .string ⟨#[116, 101, 120, 116, 32, 48, 32, 36, 91, 48, 93]⟩] w fun e w' => e = .returned (.string (⟨#[111, 107, 32]⟩ ++ t)) ∧ Below w.heap.size w w' := by
  go_enter Tryz.func13, Tryz.ntmps13
  go_wp2_with fail
  refine (scut_0 _).mono ?_; rintro e w1 ⟨rfl, hb1⟩
  have s1 := hb1.size; try simp at s1
  try (have l1_0_0_0 : w.heap.size < w1.heap.size := by omega)
  try (have l1_0_0_1 : w.heap.size < w1.heap.size + 1 := by omega)
  try (have l1_0_0_2 : w.heap.size < w1.heap.size + 1 + 1 := by omega)
  try (have e1_0_0_0 := hb1.cell (p := ⟨w.heap.size, 0, none⟩) (by first | (simp; done) | (simp; omega) | omega | (simp [World.setCell]; omega)); simp [go_sem, *] at e1_0_0_0)
  try (have f1_0_0_0 := hb1.frozen (p := ⟨w.heap.size, 0, none⟩) (by first | (simp; done) | (simp; omega) | omega | (simp [World.setCell]; omega)); simp [go_sem, *] at f1_0_0_0)
  have HB1 := bel_step (w := w) (by (repeat' (first | refine Below.setCell ?_ (by first | (simp; done) | (simp; omega) | omega | (simp [World.setCell]; omega)) _ | refine Below.alloc ?_ (by first | (simp; done) | (simp; omega) | omega | (simp [World.setCell]; omega)) _ | refine below_drewN' ?_ _ | refine Below.drew ?_ | exact Hid.out (by assumption) | exact Below.refl _ _))) hb1
  clear hb1
  go_wp2_with fail
  refine (commands_any _).mono ?_; rintro e w2 ⟨b, rfl, hC, hb2⟩
  have s2 := hb2.size; try simp at s2
  try (have l2_0_0_0 : w.heap.size < w2.heap.size := by omega)
  try (have l2_0_0_1 : w.heap.size < w2.heap.size + 1 := by omega)
  try (have l2_0_0_2 : w.heap.size < w2.heap.size + 1 + 1 := by omega)
  try (have e2_0_0_0 := hb2.cell (p := ⟨w.heap.size, 0, none⟩) (by first | (simp; done) | (simp; omega) | omega | (simp [World.setCell]; omega)); simp [go_sem, *] at e2_0_0_0)
  try (have f2_0_0_0 := hb2.frozen (p := ⟨w.heap.size, 0, none⟩) (by first | (simp; done) | (simp; omega) | omega | (simp [World.setCell]; omega)); simp [go_sem, *] at f2_0_0_0)
  have HB2 := bel_step (w := w) (by (repeat' (first | refine Below.setCell ?_ (by first | (simp; done) | (simp; omega) | omega | (simp [World.setCell]; omega)) _ | refine Below.alloc ?_ (by first | (simp; done) | (simp; omega) | omega | (simp [World.setCell]; omega)) _ | refine below_drewN' ?_ _ | refine Below.drew ?_ | exact Hid.out (by assumption) | exact Below.refl _ _))) hb2
  clear hb2
  obtain ⟨es, cl, hbk, h1, h2⟩ := hC
  have hlk := run_look hbk h2
  clear h1 h2
  go_wp2_with fail
  refine (stext_0 p n L T V hD hV hc t hT ht s _ (hX.below (by (repeat' (first | refine Below.setCell ?_ (by first | (simp; done) | (simp; omega) | omega | (simp [World.setCell]; omega)) _ | refine Below.alloc ?_ (by first | (simp; done) | (simp; omega) | omega | (simp [World.setCell]; omega)) _ | refine below_drewN' ?_ _ | refine Below.drew ?_ | exact Hid.out (by assumption) | exact Below.refl _ _)))) (hS.below (by (repeat' (first | refine Below.setCell ?_ (by first | (simp; done) | (simp; omega) | omega | (simp [World.setCell]; omega)) _ | refine Below.alloc ?_ (by first | (simp; done) | (simp; omega) | omega | (simp [World.setCell]; omega)) _ | refine below_drewN' ?_ _ | refine Below.drew ?_ | exact Hid.out (by assumption) | exact Below.refl _ _))))).mono ?_; rintro e w3 ⟨rfl, hb3⟩
  have s3 := hb3.size; try simp at s3
  try (have l3_0_0_0 : w.heap.size < w3.heap.size := by omega)
  try (have l3_0_0_1 : w.heap.size < w3.heap.size + 1 := by omega)
  try (have l3_0_0_2 : w.heap.size < w3.heap.size + 1 + 1 := by omega)
  try (have e3_0_0_0 := hb3.cell (p := ⟨w.heap.size, 0, none⟩) (by first | (simp; done) | (simp; omega) | omega | (simp [World.setCell]; omega)); simp [go_sem, *] at e3_0_0_0)
  try (have f3_0_0_0 := hb3.frozen (p := ⟨w.heap.size, 0, none⟩) (by first | (simp; done) | (simp; omega) | omega | (simp [World.setCell]; omega)); simp [go_sem, *] at f3_0_0_0)
  have HB3 := bel_step (w := w) (by (repeat' (first | refine Below.setCell ?_ (by first | (simp; done) | (simp; omega) | omega | (simp [World.setCell]; omega)) _ | refine Below.alloc ?_ (by first | (simp; done) | (simp; omega) | omega | (simp [World.setCell]; omega)) _ | refine below_drewN' ?_ _ | refine Below.drew ?_ | exact Hid.out (by assumption) | exact Below.refl _ _))) hb3
  clear hb3
  go_wp2_with fail
  go_ret
  exact ⟨rfl, by (repeat' (first | refine Below.setCell ?_ (by first | (simp; done) | (simp; omega) | omega | (simp [World.setCell]; omega)) _ | refine Below.alloc ?_ (by first | (simp; done) | (simp; omega) | omega | (simp [World.setCell]; omega)) _ | refine below_drewN' ?_ _ | refine Below.drew ?_ | exact Hid.out (by assumption) | exact Below.refl _ _))⟩
set_option maxRecDepth 100000 in
set_option maxHeartbeats 2000000 in
theorem do_v1 (p n L : Nat) (T V : ByteArray) (hD : Doc T V n L) (c : Int) (k : Nat) (hV : 0 < V.size) (hc : ((V[0]'hV).toNat : Int) = c) (hk : Kd c k) (hk4 : k < 4) (C : ByteArray) (hCs : C.size ≤ 100000) (s : Nat) (w : World) (hX : Ix w p T n) (hLf : LeafP w p C) (hS : Se w s p n) : Calls Tryz.prog 13 #[.agg #[.pointer (some ⟨s, 0, none⟩)], .string ⟨#[118, 97, 108, 117, 101, 115, 32, 48, 32, 49, 32, 36, 91, 48, 93]⟩] w fun e w' => e = .returned (.string (⟨#[111, 107, 32, 49]⟩ ++ (⟨#[10]⟩ ++ C))) ∧ Below w.heap.size w w' := by
  go_enter Tryz.func13, Tryz.ntmps13
  go_wp2_with fail
  refine (scut_1 _).mono ?_; rintro e w1 ⟨rfl, hb1⟩
  have s1 := hb1.size; try simp at s1
  try (have l1_0_0_0 : w.heap.size < w1.heap.size := by omega)
  try (have l1_0_0_1 : w.heap.size < w1.heap.size + 1 := by omega)
  try (have l1_0_0_2 : w.heap.size < w1.heap.size + 1 + 1 := by omega)
  try (have e1_0_0_0 := hb1.cell (p := ⟨w.heap.size, 0, none⟩) (by first | (simp; done) | (simp; omega) | omega | (simp [World.setCell]; omega)); simp [go_sem, *] at e1_0_0_0)
  try (have f1_0_0_0 := hb1.frozen (p := ⟨w.heap.size, 0, none⟩) (by first | (simp; done) | (simp; omega) | omega | (simp [World.setCell]; omega)); simp [go_sem, *] at f1_0_0_0)
  have HB1 := bel_step (w := w) (by (repeat' (first | refine Below.setCell ?_ (by first | (simp; done) | (simp; omega) | omega | (simp [World.setCell]; omega)) _ | refine Below.alloc ?_ (by first | (simp; done) | (simp; omega) | omega | (simp [World.setCell]; omega)) _ | refine below_drewN' ?_ _ | refine Below.drew ?_ | exact Hid.out (by assumption) | exact Below.refl _ _))) hb1
  clear hb1
  go_wp2_with fail
  refine (commands_any _).mono ?_; rintro e w2 ⟨b, rfl, hC, hb2⟩
  have s2 := hb2.size; try simp at s2
  try (have l2_0_0_0 : w.heap.size < w2.heap.size := by omega)
  try (have l2_0_0_1 : w.heap.size < w2.heap.size + 1 := by omega)
  try (have l2_0_0_2 : w.heap.size < w2.heap.size + 1 + 1 := by omega)
  try (have e2_0_0_0 := hb2.cell (p := ⟨w.heap.size, 0, none⟩) (by first | (simp; done) | (simp; omega) | omega | (simp [World.setCell]; omega)); simp [go_sem, *] at e2_0_0_0)
  try (have f2_0_0_0 := hb2.frozen (p := ⟨w.heap.size, 0, none⟩) (by first | (simp; done) | (simp; omega) | omega | (simp [World.setCell]; omega)); simp [go_sem, *] at f2_0_0_0)
  have HB2 := bel_step (w := w) (by (repeat' (first | refine Below.setCell ?_ (by first | (simp; done) | (simp; omega) | omega | (simp [World.setCell]; omega)) _ | refine Below.alloc ?_ (by first | (simp; done) | (simp; omega) | omega | (simp [World.setCell]; omega)) _ | refine below_drewN' ?_ _ | refine Below.drew ?_ | exact Hid.out (by assumption) | exact Below.refl _ _))) hb2
  clear hb2
  obtain ⟨es, cl, hbk, h1, h2⟩ := hC
  have hlk := run_look hbk h1
  clear h1 h2
  go_wp2_with fail
  refine (values_1 p n L T V hD c k hV hc hk hk4 C hCs s _ (hX.below (by (repeat' (first | refine Below.setCell ?_ (by first | (simp; done) | (simp; omega) | omega | (simp [World.setCell]; omega)) _ | refine Below.alloc ?_ (by first | (simp; done) | (simp; omega) | omega | (simp [World.setCell]; omega)) _ | refine below_drewN' ?_ _ | refine Below.drew ?_ | exact Hid.out (by assumption) | exact Below.refl _ _)))) (hLf.below (by (repeat' (first | refine Below.setCell ?_ (by first | (simp; done) | (simp; omega) | omega | (simp [World.setCell]; omega)) _ | refine Below.alloc ?_ (by first | (simp; done) | (simp; omega) | omega | (simp [World.setCell]; omega)) _ | refine below_drewN' ?_ _ | refine Below.drew ?_ | exact Hid.out (by assumption) | exact Below.refl _ _)))) (hS.below (by (repeat' (first | refine Below.setCell ?_ (by first | (simp; done) | (simp; omega) | omega | (simp [World.setCell]; omega)) _ | refine Below.alloc ?_ (by first | (simp; done) | (simp; omega) | omega | (simp [World.setCell]; omega)) _ | refine below_drewN' ?_ _ | refine Below.drew ?_ | exact Hid.out (by assumption) | exact Below.refl _ _))))).mono ?_; rintro e w3 ⟨rfl, hb3⟩
  have s3 := hb3.size; try simp at s3
  try (have l3_0_0_0 : w.heap.size < w3.heap.size := by omega)
  try (have l3_0_0_1 : w.heap.size < w3.heap.size + 1 := by omega)
  try (have l3_0_0_2 : w.heap.size < w3.heap.size + 1 + 1 := by omega)
  try (have e3_0_0_0 := hb3.cell (p := ⟨w.heap.size, 0, none⟩) (by first | (simp; done) | (simp; omega) | omega | (simp [World.setCell]; omega)); simp [go_sem, *] at e3_0_0_0)
  try (have f3_0_0_0 := hb3.frozen (p := ⟨w.heap.size, 0, none⟩) (by first | (simp; done) | (simp; omega) | omega | (simp [World.setCell]; omega)); simp [go_sem, *] at f3_0_0_0)
  have HB3 := bel_step (w := w) (by (repeat' (first | refine Below.setCell ?_ (by first | (simp; done) | (simp; omega) | omega | (simp [World.setCell]; omega)) _ | refine Below.alloc ?_ (by first | (simp; done) | (simp; omega) | omega | (simp [World.setCell]; omega)) _ | refine below_drewN' ?_ _ | refine Below.drew ?_ | exact Hid.out (by assumption) | exact Below.refl _ _))) hb3
  clear hb3
  go_wp2_with fail
  go_ret
  exact ⟨rfl, by (repeat' (first | refine Below.setCell ?_ (by first | (simp; done) | (simp; omega) | omega | (simp [World.setCell]; omega)) _ | refine Below.alloc ?_ (by first | (simp; done) | (simp; omega) | omega | (simp [World.setCell]; omega)) _ | refine below_drewN' ?_ _ | refine Below.drew ?_ | exact Hid.out (by assumption) | exact Below.refl _ _))⟩
set_option maxRecDepth 100000 in
set_option maxHeartbeats 2000000 in
theorem do_v9 (p n L : Nat) (T V : ByteArray) (hD : Doc T V n L) (c : Int) (k : Nat) (hV : 0 < V.size) (hc : ((V[0]'hV).toNat : Int) = c) (hk : Kd c k) (hk4 : k < 4) (C : ByteArray) (hCs : C.size ≤ 100000) (s : Nat) (w : World) (hX : Ix w p T n) (hLf : LeafP w p C) (hS : Se w s p n) : Calls Tryz.prog 13 #[.agg #[.pointer (some ⟨s, 0, none⟩)], .string ⟨#[118, 97, 108, 117, 101, 115, 32, 48, 32, 57, 32, 36, 91, 48, 93]⟩] w fun e w' => e = .returned (.string (⟨#[111, 107, 32, 49]⟩ ++ (⟨#[10]⟩ ++ C))) ∧ Below w.heap.size w w' := by
  go_enter Tryz.func13, Tryz.ntmps13
  go_wp2_with fail
  refine (scut_2 _).mono ?_; rintro e w1 ⟨rfl, hb1⟩
  have s1 := hb1.size; try simp at s1
  try (have l1_0_0_0 : w.heap.size < w1.heap.size := by omega)
  try (have l1_0_0_1 : w.heap.size < w1.heap.size + 1 := by omega)
  try (have l1_0_0_2 : w.heap.size < w1.heap.size + 1 + 1 := by omega)
  try (have e1_0_0_0 := hb1.cell (p := ⟨w.heap.size, 0, none⟩) (by first | (simp; done) | (simp; omega) | omega | (simp [World.setCell]; omega)); simp [go_sem, *] at e1_0_0_0)
  try (have f1_0_0_0 := hb1.frozen (p := ⟨w.heap.size, 0, none⟩) (by first | (simp; done) | (simp; omega) | omega | (simp [World.setCell]; omega)); simp [go_sem, *] at f1_0_0_0)
  have HB1 := bel_step (w := w) (by (repeat' (first | refine Below.setCell ?_ (by first | (simp; done) | (simp; omega) | omega | (simp [World.setCell]; omega)) _ | refine Below.alloc ?_ (by first | (simp; done) | (simp; omega) | omega | (simp [World.setCell]; omega)) _ | refine below_drewN' ?_ _ | refine Below.drew ?_ | exact Hid.out (by assumption) | exact Below.refl _ _))) hb1
  clear hb1
  go_wp2_with fail
  refine (commands_any _).mono ?_; rintro e w2 ⟨b, rfl, hC, hb2⟩
  have s2 := hb2.size; try simp at s2
  try (have l2_0_0_0 : w.heap.size < w2.heap.size := by omega)
  try (have l2_0_0_1 : w.heap.size < w2.heap.size + 1 := by omega)
  try (have l2_0_0_2 : w.heap.size < w2.heap.size + 1 + 1 := by omega)
  try (have e2_0_0_0 := hb2.cell (p := ⟨w.heap.size, 0, none⟩) (by first | (simp; done) | (simp; omega) | omega | (simp [World.setCell]; omega)); simp [go_sem, *] at e2_0_0_0)
  try (have f2_0_0_0 := hb2.frozen (p := ⟨w.heap.size, 0, none⟩) (by first | (simp; done) | (simp; omega) | omega | (simp [World.setCell]; omega)); simp [go_sem, *] at f2_0_0_0)
  have HB2 := bel_step (w := w) (by (repeat' (first | refine Below.setCell ?_ (by first | (simp; done) | (simp; omega) | omega | (simp [World.setCell]; omega)) _ | refine Below.alloc ?_ (by first | (simp; done) | (simp; omega) | omega | (simp [World.setCell]; omega)) _ | refine below_drewN' ?_ _ | refine Below.drew ?_ | exact Hid.out (by assumption) | exact Below.refl _ _))) hb2
  clear hb2
  obtain ⟨es, cl, hbk, h1, h2⟩ := hC
  have hlk := run_look hbk h1
  clear h1 h2
  go_wp2_with fail
  refine (values_9 p n L T V hD c k hV hc hk hk4 C hCs s _ (hX.below (by (repeat' (first | refine Below.setCell ?_ (by first | (simp; done) | (simp; omega) | omega | (simp [World.setCell]; omega)) _ | refine Below.alloc ?_ (by first | (simp; done) | (simp; omega) | omega | (simp [World.setCell]; omega)) _ | refine below_drewN' ?_ _ | refine Below.drew ?_ | exact Hid.out (by assumption) | exact Below.refl _ _)))) (hLf.below (by (repeat' (first | refine Below.setCell ?_ (by first | (simp; done) | (simp; omega) | omega | (simp [World.setCell]; omega)) _ | refine Below.alloc ?_ (by first | (simp; done) | (simp; omega) | omega | (simp [World.setCell]; omega)) _ | refine below_drewN' ?_ _ | refine Below.drew ?_ | exact Hid.out (by assumption) | exact Below.refl _ _)))) (hS.below (by (repeat' (first | refine Below.setCell ?_ (by first | (simp; done) | (simp; omega) | omega | (simp [World.setCell]; omega)) _ | refine Below.alloc ?_ (by first | (simp; done) | (simp; omega) | omega | (simp [World.setCell]; omega)) _ | refine below_drewN' ?_ _ | refine Below.drew ?_ | exact Hid.out (by assumption) | exact Below.refl _ _))))).mono ?_; rintro e w3 ⟨rfl, hb3⟩
  have s3 := hb3.size; try simp at s3
  try (have l3_0_0_0 : w.heap.size < w3.heap.size := by omega)
  try (have l3_0_0_1 : w.heap.size < w3.heap.size + 1 := by omega)
  try (have l3_0_0_2 : w.heap.size < w3.heap.size + 1 + 1 := by omega)
  try (have e3_0_0_0 := hb3.cell (p := ⟨w.heap.size, 0, none⟩) (by first | (simp; done) | (simp; omega) | omega | (simp [World.setCell]; omega)); simp [go_sem, *] at e3_0_0_0)
  try (have f3_0_0_0 := hb3.frozen (p := ⟨w.heap.size, 0, none⟩) (by first | (simp; done) | (simp; omega) | omega | (simp [World.setCell]; omega)); simp [go_sem, *] at f3_0_0_0)
  have HB3 := bel_step (w := w) (by (repeat' (first | refine Below.setCell ?_ (by first | (simp; done) | (simp; omega) | omega | (simp [World.setCell]; omega)) _ | refine Below.alloc ?_ (by first | (simp; done) | (simp; omega) | omega | (simp [World.setCell]; omega)) _ | refine below_drewN' ?_ _ | refine Below.drew ?_ | exact Hid.out (by assumption) | exact Below.refl _ _))) hb3
  clear hb3
  go_wp2_with fail
  go_ret
  exact ⟨rfl, by (repeat' (first | refine Below.setCell ?_ (by first | (simp; done) | (simp; omega) | omega | (simp [World.setCell]; omega)) _ | refine Below.alloc ?_ (by first | (simp; done) | (simp; omega) | omega | (simp [World.setCell]; omega)) _ | refine below_drewN' ?_ _ | refine Below.drew ?_ | exact Hid.out (by assumption) | exact Below.refl _ _))⟩
set_option maxRecDepth 100000 in
set_option maxHeartbeats 2000000 in
theorem open_1 (T : ByteArray) (n L : Nat) (c : Int) (hT : ScT T n L c) (h10 : T.data.toList.contains 10 = false) (dp : Nat) (hd : 1 ≤ dp) (hd2 : dp ≤ 4096) (hZ : Ms T 0 false [((0 : Int), (91 : Int)), ((L : Int), (93 : Int))]) (ln lc : Nat) (q : Nat) (w : World) (hTb : Tab w) : Calls Tryz.prog 11 #[.agg #[.string T, .int .i64 (dp : Nat), .string ⟨#[]⟩, .slice (some ⟨ln, 0, none⟩) q lc]] w fun e w' => ∃ s p, e = .returned (.tuple #[.pointer (some ⟨s, 0, none⟩), .int .i64 0]) ∧ Se w' s p n ∧ Ix w' p T n ∧ Below w.heap.size w w' := by
  have H10 := Lib.hid h10
  clear h10
  go_enter Tryz.func11, Tryz.ntmps11
  go_wp2_with fail
  refine (build_1 T n L c hT H10.out dp hd hd2 hZ _ (hTb.below (by (repeat' (first | refine Below.setCell ?_ (by first | (simp; done) | (simp; omega) | omega | (simp [World.setCell]; omega)) _ | refine Below.alloc ?_ (by first | (simp; done) | (simp; omega) | omega | (simp [World.setCell]; omega)) _ | refine below_drewN' ?_ _ | refine Below.drew ?_ | exact Hid.out (by assumption) | exact Below.refl _ _))))).mono ?_; rintro e w1 ⟨s, p, rfl, hS, hX, hb1⟩
  go_wp2_with fail
  go_ret2
  exact ⟨s, p, rfl, hS, hX, ((Below.refl _ _).alloc (Nat.le_refl _) _).trans (hb1.mono (by simp))⟩
def Runs1 (w : World) (A : ByteArray) (e : Ending) (w' : World) : Prop := ∃ g cc, e = .returned (.slice (some ⟨g, 0, none⟩) 1 cc) ∧ (g < w'.heap.size ∧ w'.cell? ⟨g, 0, none⟩ = some (.string A)) ∧ Below w.heap.size w w'
def Runs2 (w : World) (A B : ByteArray) (e : Ending) (w' : World) : Prop := ∃ g cc, e = .returned (.slice (some ⟨g, 0, none⟩) 2 cc) ∧ (g < w'.heap.size ∧ w'.cell? ⟨g, 0, none⟩ = some (.string A) ∧ w'.cell? ⟨g, 1, none⟩ = some (.string B)) ∧ Below w.heap.size w w'
set_option maxRecDepth 100000 in
set_option maxHeartbeats 2000000 in
theorem run_9 (T : ByteArray) (n L : Nat) (c : Int) (hT : ScT T n L c) (h10 : T.data.toList.contains 10 = false) (dp : Nat) (hd : 1 ≤ dp) (hd2 : dp ≤ 4096) (hZ : Ms T 0 false [((0 : Int), (91 : Int)), ((L : Int), (93 : Int))]) (ln lc : Nat) (V : ByteArray) (hD : Doc T V n L) (k : Nat) (hV : 0 < V.size) (hc : ((V[0]'hV).toNat : Int) = c) (hk : Kd c k) (hk4 : k < 4) (C : ByteArray) (hCs : C.size ≤ 100000) (w : World) (hTb : Tab w) (ll : ln < w.heap.size) (hl0 : w.cell? ⟨ln, 0, none⟩ = some (.string ⟨#[118, 97, 108, 117, 101, 115, 32, 48, 32, 57, 32, 36, 91, 48, 93]⟩)) (hLf : ∀ (p : Nat) (W : World), Ix W p T n → LeafP W p C) : Calls Tryz.prog 9 #[.agg #[.string T, .int .i64 (dp : Nat), .string ⟨#[]⟩, .slice (some ⟨ln, 0, none⟩) 1 lc]] w fun e w' => Runs1 w (⟨#[111, 107, 32, 49]⟩ ++ (⟨#[10]⟩ ++ C)) e w' := by
  have H10 := Lib.hid h10
  clear h10
  obtain ⟨i0, hi0, hz0, hs0, hb0⟩ := info_parts info9
  have ll1 : ln < w.heap.size + 1 := by omega
  go_enter Tryz.func9, Tryz.ntmps9
  go_wp2_with fail
  refine (open_1 T n L c hT H10.out dp hd hd2 hZ ln lc 1 _ (hTb.below (by (repeat' (first | refine Below.setCell ?_ (by first | (simp; done) | (simp; omega) | omega | (simp [World.setCell]; omega)) _ | refine Below.alloc ?_ (by first | (simp; done) | (simp; omega) | omega | (simp [World.setCell]; omega)) _ | refine below_drewN' ?_ _ | refine Below.drew ?_ | exact Hid.out (by assumption) | exact Below.refl _ _))))).mono ?_; rintro e w1 ⟨s, p, rfl, hS, hX, hb1⟩
  have s1 := hb1.size; try simp at s1
  have k0 := hb1.cell (p := ⟨w.heap.size, 3, none⟩) (by simp); simp [go_sem] at k0
  have kl : w.heap.size < w1.heap.size := by omega
  have HB1 := bel_step (w := w) (by (repeat' (first | refine Below.setCell ?_ (by first | (simp; done) | (simp; omega) | omega | (simp [World.setCell]; omega)) _ | refine Below.alloc ?_ (by first | (simp; done) | (simp; omega) | omega | (simp [World.setCell]; omega)) _ | refine below_drewN' ?_ _ | refine Below.drew ?_ | exact Hid.out (by assumption) | exact Below.refl _ _))) hb1
  replace hl0 := (HB1.out.cell (p := ⟨ln, 0, none⟩) ll).trans hl0
  have ll2 : ln < w1.heap.size := by omega
  clear hb1
  go_wp2_with (first | (refine wp_loop_unr 2 ?_; refine Unr.step ?_; intro U hU) | (refine Unr.step ?_; intro U hU))
  refine (do_v9 p n L T V hD c k hV hc hk hk4 C hCs s _ hX (hLf p _ hX) hS).mono ?_; rintro e w2 ⟨rfl, hb⟩
  have HX2 := Lib.hid (hX.below hb)
  have HS2 := Lib.hid (hS.below hb)
  have HB2 : Hid (Below w.heap.size w w2) := Lib.hid (HB1.out.trans (hb.mono HB1.out.size))
  have ll3 : ln < w2.heap.size := Nat.lt_of_lt_of_le ll2 hb.size
  clear hb
  go_wp2_with (first | (at_builtin; refine wpList_push rfl _ _ 30 rfl 9 i0 _ 1 16 Tryz.underlying30 hi0 hz0 hs0 hb0 rfl (by omega) (Acc.nil (Below.refl _ _) 9 1) rfl rfl (by simp) rfl rfl (by omega) (by omega) ?_; intro g0 c0 w3 hA; have HA3 := Lib.hid hA; have hb := hA.bel; have HX3 := Lib.hid (HX2.out.below hb); have HS3 := Lib.hid (HS2.out.below hb); have HB3 : Hid (Below w.heap.size w w3) := Lib.hid (HB2.out.trans (hb.mono HB2.out.size)); have ll4 : ln < w3.heap.size := Nat.lt_of_lt_of_le ll3 hb.size; clear hb hA) | (refine wp_loop_unr 2 ?_; refine Unr.step ?_; intro U hU) | (refine Unr.step ?_; intro U hU))
  have hr := HA3.out.row
  go_ret
  exact ⟨g0, c0, rfl, ⟨hr.2.1, hr.2.2 0 _ rfl⟩, HB3.out⟩
set_option maxRecDepth 100000 in
set_option maxHeartbeats 2000000 in
theorem run_2 (T : ByteArray) (n L : Nat) (c : Int) (hT : ScT T n L c) (h10 : T.data.toList.contains 10 = false) (dp : Nat) (hd : 1 ≤ dp) (hd2 : dp ≤ 4096) (hZ : Ms T 0 false [((0 : Int), (91 : Int)), ((L : Int), (93 : Int))]) (ln lc : Nat) (V : ByteArray) (hD : Doc T V n L) (k : Nat) (hV : 0 < V.size) (hc : ((V[0]'hV).toNat : Int) = c) (hk : Kd c k) (hk4 : k < 4) (C : ByteArray) (hCs : C.size ≤ 100000) (hc34 : c = 34) (t : ByteArray) (hTx : TxtP V t) (ht : t.size ≤ 100000) (w : World) (hTb : Tab w) (ll : ln < w.heap.size) (hl0 : w.cell? ⟨ln, 0, none⟩ = some (.string ⟨#[116, 101, 120, 116, 32, 48, 32, 36, 91, 48, 93]⟩)) (hl1 : w.cell? ⟨ln, 1, none⟩ = some (.string ⟨#[118, 97, 108, 117, 101, 115, 32, 48, 32, 49, 32, 36, 91, 48, 93]⟩)) (hLf : ∀ (p : Nat) (W : World), Ix W p T n → LeafP W p C) : Calls Tryz.prog 9 #[.agg #[.string T, .int .i64 (dp : Nat), .string ⟨#[]⟩, .slice (some ⟨ln, 0, none⟩) 2 lc]] w fun e w' => Runs2 w (⟨#[111, 107, 32]⟩ ++ t) (⟨#[111, 107, 32, 49]⟩ ++ (⟨#[10]⟩ ++ C)) e w' := by
  have H10 := Lib.hid h10
  clear h10
  obtain ⟨i0, hi0, hz0, hs0, hb0⟩ := info_parts info9
  have ll1 : ln < w.heap.size + 1 := by omega
  go_enter Tryz.func9, Tryz.ntmps9
  go_wp2_with fail
  refine (open_1 T n L c hT H10.out dp hd hd2 hZ ln lc 2 _ (hTb.below (by (repeat' (first | refine Below.setCell ?_ (by first | (simp; done) | (simp; omega) | omega | (simp [World.setCell]; omega)) _ | refine Below.alloc ?_ (by first | (simp; done) | (simp; omega) | omega | (simp [World.setCell]; omega)) _ | refine below_drewN' ?_ _ | refine Below.drew ?_ | exact Hid.out (by assumption) | exact Below.refl _ _))))).mono ?_; rintro e w1 ⟨s, p, rfl, hS, hX, hb1⟩
  have s1 := hb1.size; try simp at s1
  have k0 := hb1.cell (p := ⟨w.heap.size, 3, none⟩) (by simp); simp [go_sem] at k0
  have kl : w.heap.size < w1.heap.size := by omega
  have HB1 := bel_step (w := w) (by (repeat' (first | refine Below.setCell ?_ (by first | (simp; done) | (simp; omega) | omega | (simp [World.setCell]; omega)) _ | refine Below.alloc ?_ (by first | (simp; done) | (simp; omega) | omega | (simp [World.setCell]; omega)) _ | refine below_drewN' ?_ _ | refine Below.drew ?_ | exact Hid.out (by assumption) | exact Below.refl _ _))) hb1
  replace hl0 := (HB1.out.cell (p := ⟨ln, 0, none⟩) ll).trans hl0
  replace hl1 := (HB1.out.cell (p := ⟨ln, 1, none⟩) ll).trans hl1
  have ll2 : ln < w1.heap.size := by omega
  clear hb1
  go_wp2_with (first | (refine wp_loop_unr 3 ?_; refine Unr.step ?_; intro U hU) | (refine Unr.step ?_; intro U hU))
  refine (do_text p n L T V hD hV (by rw [← hc34]; exact hc) t hTx ht s _ hX hS).mono ?_; rintro e w2 ⟨rfl, hb⟩
  have HX2 := Lib.hid (hX.below hb)
  have HS2 := Lib.hid (hS.below hb)
  have HB2 : Hid (Below w.heap.size w w2) := Lib.hid (HB1.out.trans (hb.mono HB1.out.size))
  replace hl1 := (hb.cell (p := ⟨ln, 1, none⟩) ll2).trans hl1
  have ll3 : ln < w2.heap.size := Nat.lt_of_lt_of_le ll2 hb.size
  clear hb
  go_wp2_with (first | (at_builtin; refine wpList_push rfl _ _ 30 rfl 9 i0 _ 1 16 Tryz.underlying30 hi0 hz0 hs0 hb0 rfl (by omega) (Acc.nil (Below.refl _ _) 9 1) rfl rfl (by simp) rfl rfl (by omega) (by omega) ?_; intro g0 c0 w3 hA; have HA3 := Lib.hid hA; have hb := hA.bel; have HX3 := Lib.hid (HX2.out.below hb); have HS3 := Lib.hid (HS2.out.below hb); have HB3 : Hid (Below w.heap.size w w3) := Lib.hid (HB2.out.trans (hb.mono HB2.out.size)); replace hl1 := (hb.cell (p := ⟨ln, 1, none⟩) ll3).trans hl1; have ll4 : ln < w3.heap.size := Nat.lt_of_lt_of_le ll3 hb.size; clear hb hA) | (refine wp_loop_unr 3 ?_; refine Unr.step ?_; intro U hU) | (refine Unr.step ?_; intro U hU))
  refine (do_v1 p n L T V hD c k hV hc hk hk4 C hCs s _ HX3.out (hLf p _ HX3.out) HS3.out).mono ?_; rintro e w4 ⟨rfl, hb⟩
  have HX4 := Lib.hid (HX3.out.below hb)
  have HS4 := Lib.hid (HS3.out.below hb)
  have HA4 := Lib.hid (HA3.out.below hb)
  have HB4 : Hid (Below w.heap.size w w4) := Lib.hid (HB3.out.trans (hb.mono HB3.out.size))
  have ll5 : ln < w4.heap.size := Nat.lt_of_lt_of_le ll4 hb.size
  clear hb
  go_wp2_with (first | (at_builtin; refine wpList_push rfl _ _ 30 rfl 9 i0 _ 1 16 Tryz.underlying30 hi0 hz0 hs0 hb0 rfl (by omega) HA4.out rfl rfl (by simp) rfl rfl (by omega) (by omega) ?_; intro g1 c1 w5 hA; have HA5 := Lib.hid hA; have HB5 : Hid (Below w.heap.size w w5) := Lib.hid (HB2.out.trans (hA.bel.mono HB2.out.size)); clear hA) | (refine wp_loop_unr 3 ?_; refine Unr.step ?_; intro U hU) | (refine Unr.step ?_; intro U hU))
  have hr := HA5.out.row
  go_ret
  exact ⟨g1, c1, rfl, ⟨hr.2.1, hr.2.2 0 _ rfl, hr.2.2 1 _ rfl⟩, HB5.out⟩
end Go.Proofs.YtjelneeeijjpiaaGreatDoor
end
section
namespace Go.Proofs.YtjelneeeijjpiaaGreatDoor.Tx
open Go.RowKit Go.Proofs.Lw Go.Proofs.Le
end Go.Proofs.YtjelneeeijjpiaaGreatDoor.Tx
end
