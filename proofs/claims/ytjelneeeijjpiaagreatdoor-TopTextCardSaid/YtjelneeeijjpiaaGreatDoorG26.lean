/- TopText: walks and plain laws, part 26: lemmas on what the functions that the law comes to compute. -/
import Derived.Test.YtjelneeeijjpiaaGreatDoorG18
import Derived.Test.YtjelneeeijjpiaaGreatDoorG22
import Derived.Test.YtjelneeeijjpiaaGreatDoorG25
set_option linter.unusedVariables false
set_option linter.unusedSimpArgs false
section
namespace Go.Proofs.YtjelneeeijjpiaaGreatDoor
open Go.RowKit
set_option maxRecDepth 100000 in
set_option maxHeartbeats 2000000 in
theorem root_any (p : Nat) (w : World) : Calls Tryz.prog 145 #[.pointer (some ⟨p, 0, none⟩)] w fun e w' => e = .returned (.agg #[.pointer (some ⟨p, 0, none⟩), .int .i64 (-1)]) ∧ w' = w.alloc (.cells #[.pointer (some ⟨p, 0, none⟩), .int .i64 (-1)] 139) := by
  go_enter Tryz.func145, Tryz.ntmps145
  go_wp2_with fail
  try simp only [Exit.inBlock, Exit.then]
  refine bodyPost_ret (v := .agg #[.pointer (some ⟨p, 0, none⟩), .int .i64 (-1)]) (by simp [results, Tryz.results145, go_sem, *]) rfl ⟨rfl, rfl⟩
def KidP (w : World) (p : Nat) (e : Ending) (w' : World) : Prop := ∃ W, e = .returned (.slice (some ⟨W.heap.size, 0, none⟩) 1 1) ∧ w' = W.alloc (.cells #[.pointer (some ⟨p, 0, none⟩), .int .i64 1] 139) ∧ Below w.heap.size w W
theorem info139 : (Tryz.prog.info? 139).map (fun i => (i.zero, i.size, i.bytes)) = some (some (.agg #[.pointer none, .int .i64 0]), 2, 16) := by kernel_rfl
set_option maxRecDepth 100000 in
set_option maxHeartbeats 2000000 in
theorem kids_0 (p n L : Nat) (T V : ByteArray) (hD : Doc T V n L) (w : World) (h : Ix w p T n) : Calls Tryz.prog 153 #[.agg #[.pointer (some ⟨p, 0, none⟩), .int .i64 (-1)], .agg #[.int .i64 2, .string ⟨#[]⟩, .int .i64 0, .int .i64 0, .int .i64 0, .int .i64 0, .bool false, .bool false, .pointer none]] w fun e w' => KidP w p e w' := by
  have hn := hD.n3
  have hn1 := hD.n1
  have hL := hD.hL
  have hs := hD.hn
  have hv := hD.vs
  go_enter Tryz.func153, Tryz.ntmps153
  go_wp2_with fail
  refine (cchild_r p n L T V hD _ (h.below (by (repeat' (first | refine Below.setCell ?_ (by first | (simp; done) | (simp; omega) | omega | (simp [World.setCell]; omega)) _ | refine Below.alloc ?_ (by first | (simp; done) | (simp; omega) | omega | (simp [World.setCell]; omega)) _ | refine below_drewN' ?_ _ | refine Below.drew ?_ | exact Hid.out (by assumption) | exact Below.refl _ _))))).mono ?_; rintro e w1 ⟨rfl, hb1⟩
  have s1 := hb1.size; try simp at s1
  try (have l1_0_0_0 : w.heap.size < w1.heap.size := by omega)
  try (have l1_0_0_1 : w.heap.size < w1.heap.size + 1 := by omega)
  try (have l1_0_0_2 : w.heap.size < w1.heap.size + 1 + 1 := by omega)
  try (have l1_0_1_0 : w.heap.size + 1 < w1.heap.size := by omega)
  try (have l1_0_1_1 : w.heap.size + 1 < w1.heap.size + 1 := by omega)
  try (have l1_0_1_2 : w.heap.size + 1 < w1.heap.size + 1 + 1 := by omega)
  try (have e1_0_0_0 := hb1.cell (p := ⟨w.heap.size, 0, none⟩) (by first | (simp; done) | (simp; omega) | omega | (simp [World.setCell]; omega)); simp [go_sem, *] at e1_0_0_0)
  try (have f1_0_0_0 := hb1.frozen (p := ⟨w.heap.size, 0, none⟩) (by first | (simp; done) | (simp; omega) | omega | (simp [World.setCell]; omega)); simp [go_sem, *] at f1_0_0_0)
  try (have e1_0_0_1 := hb1.cell (p := ⟨w.heap.size, 1, none⟩) (by first | (simp; done) | (simp; omega) | omega | (simp [World.setCell]; omega)); simp [go_sem, *] at e1_0_0_1)
  try (have f1_0_0_1 := hb1.frozen (p := ⟨w.heap.size, 1, none⟩) (by first | (simp; done) | (simp; omega) | omega | (simp [World.setCell]; omega)); simp [go_sem, *] at f1_0_0_1)
  try (have e1_0_1_0 := hb1.cell (p := ⟨w.heap.size + 1, 0, none⟩) (by first | (simp; done) | (simp; omega) | omega | (simp [World.setCell]; omega)); simp [go_sem, *] at e1_0_1_0)
  try (have f1_0_1_0 := hb1.frozen (p := ⟨w.heap.size + 1, 0, none⟩) (by first | (simp; done) | (simp; omega) | omega | (simp [World.setCell]; omega)); simp [go_sem, *] at f1_0_1_0)
  try (have e1_0_1_1 := hb1.cell (p := ⟨w.heap.size + 1, 1, none⟩) (by first | (simp; done) | (simp; omega) | omega | (simp [World.setCell]; omega)); simp [go_sem, *] at e1_0_1_1)
  try (have f1_0_1_1 := hb1.frozen (p := ⟨w.heap.size + 1, 1, none⟩) (by first | (simp; done) | (simp; omega) | omega | (simp [World.setCell]; omega)); simp [go_sem, *] at f1_0_1_1)
  try (have e1_0_1_2 := hb1.cell (p := ⟨w.heap.size + 1, 2, none⟩) (by first | (simp; done) | (simp; omega) | omega | (simp [World.setCell]; omega)); simp [go_sem, *] at e1_0_1_2)
  try (have f1_0_1_2 := hb1.frozen (p := ⟨w.heap.size + 1, 2, none⟩) (by first | (simp; done) | (simp; omega) | omega | (simp [World.setCell]; omega)); simp [go_sem, *] at f1_0_1_2)
  have HB1 := bel_step (w := w) (by (repeat' (first | refine Below.setCell ?_ (by first | (simp; done) | (simp; omega) | omega | (simp [World.setCell]; omega)) _ | refine Below.alloc ?_ (by first | (simp; done) | (simp; omega) | omega | (simp [World.setCell]; omega)) _ | refine below_drewN' ?_ _ | refine Below.drew ?_ | exact Hid.out (by assumption) | exact Below.refl _ _))) hb1
  clear hb1
  go_wp2_with fail
  refine (kind_r p n L T V hD _ (h.below (by (repeat' (first | refine Below.setCell ?_ (by first | (simp; done) | (simp; omega) | omega | (simp [World.setCell]; omega)) _ | refine Below.alloc ?_ (by first | (simp; done) | (simp; omega) | omega | (simp [World.setCell]; omega)) _ | refine below_drewN' ?_ _ | refine Below.drew ?_ | exact Hid.out (by assumption) | exact Below.refl _ _))))).mono ?_; rintro e w2 ⟨rfl, hb2⟩
  have s2 := hb2.size; try simp at s2
  try (have l2_0_0_0 : w.heap.size < w2.heap.size := by omega)
  try (have l2_0_0_1 : w.heap.size < w2.heap.size + 1 := by omega)
  try (have l2_0_0_2 : w.heap.size < w2.heap.size + 1 + 1 := by omega)
  try (have l2_0_1_0 : w.heap.size + 1 < w2.heap.size := by omega)
  try (have l2_0_1_1 : w.heap.size + 1 < w2.heap.size + 1 := by omega)
  try (have l2_0_1_2 : w.heap.size + 1 < w2.heap.size + 1 + 1 := by omega)
  try (have l2_1_0_0 : w1.heap.size < w2.heap.size := by omega)
  try (have l2_1_0_1 : w1.heap.size < w2.heap.size + 1 := by omega)
  try (have l2_1_0_2 : w1.heap.size < w2.heap.size + 1 + 1 := by omega)
  try (have e2_0_0_0 := hb2.cell (p := ⟨w.heap.size, 0, none⟩) (by first | (simp; done) | (simp; omega) | omega | (simp [World.setCell]; omega)); simp [go_sem, *] at e2_0_0_0)
  try (have f2_0_0_0 := hb2.frozen (p := ⟨w.heap.size, 0, none⟩) (by first | (simp; done) | (simp; omega) | omega | (simp [World.setCell]; omega)); simp [go_sem, *] at f2_0_0_0)
  try (have e2_0_0_1 := hb2.cell (p := ⟨w.heap.size, 1, none⟩) (by first | (simp; done) | (simp; omega) | omega | (simp [World.setCell]; omega)); simp [go_sem, *] at e2_0_0_1)
  try (have f2_0_0_1 := hb2.frozen (p := ⟨w.heap.size, 1, none⟩) (by first | (simp; done) | (simp; omega) | omega | (simp [World.setCell]; omega)); simp [go_sem, *] at f2_0_0_1)
  try (have e2_0_1_0 := hb2.cell (p := ⟨w.heap.size + 1, 0, none⟩) (by first | (simp; done) | (simp; omega) | omega | (simp [World.setCell]; omega)); simp [go_sem, *] at e2_0_1_0)
  try (have f2_0_1_0 := hb2.frozen (p := ⟨w.heap.size + 1, 0, none⟩) (by first | (simp; done) | (simp; omega) | omega | (simp [World.setCell]; omega)); simp [go_sem, *] at f2_0_1_0)
  try (have e2_0_1_1 := hb2.cell (p := ⟨w.heap.size + 1, 1, none⟩) (by first | (simp; done) | (simp; omega) | omega | (simp [World.setCell]; omega)); simp [go_sem, *] at e2_0_1_1)
  try (have f2_0_1_1 := hb2.frozen (p := ⟨w.heap.size + 1, 1, none⟩) (by first | (simp; done) | (simp; omega) | omega | (simp [World.setCell]; omega)); simp [go_sem, *] at f2_0_1_1)
  try (have e2_0_1_2 := hb2.cell (p := ⟨w.heap.size + 1, 2, none⟩) (by first | (simp; done) | (simp; omega) | omega | (simp [World.setCell]; omega)); simp [go_sem, *] at e2_0_1_2)
  try (have f2_0_1_2 := hb2.frozen (p := ⟨w.heap.size + 1, 2, none⟩) (by first | (simp; done) | (simp; omega) | omega | (simp [World.setCell]; omega)); simp [go_sem, *] at f2_0_1_2)
  try (have e2_1_0_0 := hb2.cell (p := ⟨w1.heap.size, 0, none⟩) (by first | (simp; done) | (simp; omega) | omega | (simp [World.setCell]; omega)); simp [go_sem, *] at e2_1_0_0)
  try (have f2_1_0_0 := hb2.frozen (p := ⟨w1.heap.size, 0, none⟩) (by first | (simp; done) | (simp; omega) | omega | (simp [World.setCell]; omega)); simp [go_sem, *] at f2_1_0_0)
  try (have e2_1_0_1 := hb2.cell (p := ⟨w1.heap.size, 1, none⟩) (by first | (simp; done) | (simp; omega) | omega | (simp [World.setCell]; omega)); simp [go_sem, *] at e2_1_0_1)
  try (have f2_1_0_1 := hb2.frozen (p := ⟨w1.heap.size, 1, none⟩) (by first | (simp; done) | (simp; omega) | omega | (simp [World.setCell]; omega)); simp [go_sem, *] at f2_1_0_1)
  have HB2 := bel_step (w := w) (by (repeat' (first | refine Below.setCell ?_ (by first | (simp; done) | (simp; omega) | omega | (simp [World.setCell]; omega)) _ | refine Below.alloc ?_ (by first | (simp; done) | (simp; omega) | omega | (simp [World.setCell]; omega)) _ | refine below_drewN' ?_ _ | refine Below.drew ?_ | exact Hid.out (by assumption) | exact Below.refl _ _))) hb2
  clear hb2
  go_wp2_with fail
  try simp only [Exit.inBlock, Exit.then]
  refine bodyPost_ret (v := .slice (some ⟨w2.heap.size, 0, none⟩) 1 1) (by simp [results, Tryz.results153, go_sem, *]) rfl ⟨w2, rfl, rfl, by (repeat' (first | refine Below.setCell ?_ (by first | (simp; done) | (simp; omega) | omega | (simp [World.setCell]; omega)) _ | refine Below.alloc ?_ (by first | (simp; done) | (simp; omega) | omega | (simp [World.setCell]; omega)) _ | refine below_drewN' ?_ _ | refine Below.drew ?_ | exact Hid.out (by assumption) | exact Below.refl _ _))⟩
set_option maxRecDepth 100000 in
set_option maxHeartbeats 2000000 in
theorem efirst_0 (p n L : Nat) (T V : ByteArray) (hD : Doc T V n L) (q c s : Nat) (w : World) (h : Ix w p T n) (hP : Pa w q s) : Calls Tryz.prog 102 #[.pointer (some ⟨p, 0, none⟩), .agg #[.bool true, .slice (some ⟨q, 0, none⟩) 1 (c : Nat)]] w fun e w' => e = .returned (.tuple #[.agg #[.pointer (some ⟨p, 0, none⟩), .int .i64 1], .agg #[.int .i64 0, .int .i64 0]]) ∧ Below w.heap.size w w' := by
  have hn := hD.n3
  have hn1 := hD.n1
  have hL := hD.hL
  have hs := hD.hn
  have hv := hD.vs
  obtain ⟨i0, hi0, hz0, hs0, hb0⟩ := info_parts info139
  go_enter Tryz.func102, Tryz.ntmps102
  have ql := hP.lt
  have ql1 : q < w.heap.size + 1 := by omega
  have ql2 : q < w.heap.size + 1 + 1 := by omega
  have ql3 : q < w.heap.size + 1 + 1 + 1 := by omega
  have ql4 : q < w.heap.size + 1 + 1 + 1 + 1 := by omega
  have ql5 : q < w.heap.size + 1 + 1 + 1 + 1 + 1 := by omega
  have sl := hP.sl.lt
  have sl1 : s < w.heap.size + 1 := by omega
  have sl2 : s < w.heap.size + 1 + 1 := by omega
  have sl3 : s < w.heap.size + 1 + 1 + 1 := by omega
  have sl4 : s < w.heap.size + 1 + 1 + 1 + 1 := by omega
  have sl5 : s < w.heap.size + 1 + 1 + 1 + 1 + 1 := by omega
  have q0 := hP.c0; have q1 := hP.c1
  obtain ⟨-, p0, p1, p2, p3, p4, p5, p6, p7, p8⟩ := hP.sl
  go_wp2_with (first | (go_at_call 145; refine (root_any p _).mono ?_; rintro e w9 ⟨rfl, rfl⟩) | (refine wp_loop_unr 3 ?_; refine Unr.step ?_; intro U hU) | (refine Unr.step ?_; intro U hU))
  have hk : ∀ W' : World, Below w.heap.size w W' → Calls Tryz.prog 153 #[.agg #[.pointer (some ⟨p, 0, none⟩), .int .i64 (-1)], .agg #[.int .i64 2, .string ⟨#[]⟩, .int .i64 0, .int .i64 0, .int .i64 0, .int .i64 0, .bool false, .bool false, .pointer none]] W' fun e w' => KidP W' p e w' := fun W' hW => kids_0 p n L T V hD W' (h.below hW)
  go_region_law ((first | (go_simp; go_at_call 153; refine (hk _ (by (repeat' (first | refine Below.setCell ?_ (by first | (simp; done) | (simp; omega) | omega | (simp [World.setCell]; omega)) _ | refine Below.alloc ?_ (by first | (simp; done) | (simp; omega) | omega | (simp [World.setCell]; omega)) _ | refine below_drewN' ?_ _ | refine Below.drew ?_ | exact Hid.out (by assumption) | exact Below.refl _ _)))).mono ?_; rintro e w9 ⟨w2, rfl, rfl, hb2⟩; have s2 := hb2.size; (try simp at s2); try (have l2_0_0_0 : w.heap.size < w2.heap.size := by omega); try (have l2_0_0_1 : w.heap.size < w2.heap.size + 1 := by omega); try (have l2_0_0_2 : w.heap.size < w2.heap.size + 1 + 1 := by omega); try (have l2_0_1_0 : w.heap.size + 1 < w2.heap.size := by omega); try (have l2_0_1_1 : w.heap.size + 1 < w2.heap.size + 1 := by omega); try (have l2_0_1_2 : w.heap.size + 1 < w2.heap.size + 1 + 1 := by omega); try (have l2_0_2_0 : w.heap.size + 2 < w2.heap.size := by omega); try (have l2_0_2_1 : w.heap.size + 2 < w2.heap.size + 1 := by omega); try (have l2_0_2_2 : w.heap.size + 2 < w2.heap.size + 1 + 1 := by omega); try (have e2_0_0_0 := hb2.cell (p := ⟨w.heap.size, 0, none⟩) (by first | (simp; done) | (simp; omega) | omega | (simp [World.setCell]; omega)); simp [go_sem, *] at e2_0_0_0); try (have f2_0_0_0 := hb2.frozen (p := ⟨w.heap.size, 0, none⟩) (by first | (simp; done) | (simp; omega) | omega | (simp [World.setCell]; omega)); simp [go_sem, *] at f2_0_0_0); try (have e2_0_0_1 := hb2.cell (p := ⟨w.heap.size, 1, none⟩) (by first | (simp; done) | (simp; omega) | omega | (simp [World.setCell]; omega)); simp [go_sem, *] at e2_0_0_1); try (have f2_0_0_1 := hb2.frozen (p := ⟨w.heap.size, 1, none⟩) (by first | (simp; done) | (simp; omega) | omega | (simp [World.setCell]; omega)); simp [go_sem, *] at f2_0_0_1); try (have e2_0_1_0 := hb2.cell (p := ⟨w.heap.size + 1, 0, none⟩) (by first | (simp; done) | (simp; omega) | omega | (simp [World.setCell]; omega)); simp [go_sem, *] at e2_0_1_0); try (have f2_0_1_0 := hb2.frozen (p := ⟨w.heap.size + 1, 0, none⟩) (by first | (simp; done) | (simp; omega) | omega | (simp [World.setCell]; omega)); simp [go_sem, *] at f2_0_1_0); try (have e2_0_1_1 := hb2.cell (p := ⟨w.heap.size + 1, 1, none⟩) (by first | (simp; done) | (simp; omega) | omega | (simp [World.setCell]; omega)); simp [go_sem, *] at e2_0_1_1); try (have f2_0_1_1 := hb2.frozen (p := ⟨w.heap.size + 1, 1, none⟩) (by first | (simp; done) | (simp; omega) | omega | (simp [World.setCell]; omega)); simp [go_sem, *] at f2_0_1_1); try (have e2_0_2_0 := hb2.cell (p := ⟨w.heap.size + 2, 0, none⟩) (by first | (simp; done) | (simp; omega) | omega | (simp [World.setCell]; omega)); simp [go_sem, *] at e2_0_2_0); try (have f2_0_2_0 := hb2.frozen (p := ⟨w.heap.size + 2, 0, none⟩) (by first | (simp; done) | (simp; omega) | omega | (simp [World.setCell]; omega)); simp [go_sem, *] at f2_0_2_0); try (have e2_0_2_1 := hb2.cell (p := ⟨w.heap.size + 2, 1, none⟩) (by first | (simp; done) | (simp; omega) | omega | (simp [World.setCell]; omega)); simp [go_sem, *] at e2_0_2_1); try (have f2_0_2_1 := hb2.frozen (p := ⟨w.heap.size + 2, 1, none⟩) (by first | (simp; done) | (simp; omega) | omega | (simp [World.setCell]; omega)); simp [go_sem, *] at f2_0_2_1); have HB2 := bel_step (w := w) (by (repeat' (first | refine Below.setCell ?_ (by first | (simp; done) | (simp; omega) | omega | (simp [World.setCell]; omega)) _ | refine Below.alloc ?_ (by first | (simp; done) | (simp; omega) | omega | (simp [World.setCell]; omega)) _ | refine below_drewN' ?_ _ | refine Below.drew ?_ | exact Hid.out (by assumption) | exact Below.refl _ _))) hb2; clear hb2) | (refine step_push rfl _ _ 194 rfl 139 i0 _ 2 16 Tryz.underlying194 hi0 hz0 hs0 hb0 rfl (by omega) (Acc.nil (Below.refl _ _) 139 2) rfl rfl rfl rfl rfl (by omega) (by omega) ?_; intro gn cn w3 hA; have hb3 := hA.bel; have s3 := hb3.size; try (have l3_0_0_0 : w.heap.size < w3.heap.size := by omega); try (have l3_0_0_1 : w.heap.size < w3.heap.size + 1 := by omega); try (have l3_0_0_2 : w.heap.size < w3.heap.size + 1 + 1 := by omega); try (have l3_0_1_0 : w.heap.size + 1 < w3.heap.size := by omega); try (have l3_0_1_1 : w.heap.size + 1 < w3.heap.size + 1 := by omega); try (have l3_0_1_2 : w.heap.size + 1 < w3.heap.size + 1 + 1 := by omega); try (have l3_0_2_0 : w.heap.size + 2 < w3.heap.size := by omega); try (have l3_0_2_1 : w.heap.size + 2 < w3.heap.size + 1 := by omega); try (have l3_0_2_2 : w.heap.size + 2 < w3.heap.size + 1 + 1 := by omega); try (have e3_0_0_0 := hb3.cell (p := ⟨w.heap.size, 0, none⟩) (by first | (simp; done) | (simp; omega) | omega | (simp [World.setCell]; omega)); simp [go_sem, *] at e3_0_0_0); try (have f3_0_0_0 := hb3.frozen (p := ⟨w.heap.size, 0, none⟩) (by first | (simp; done) | (simp; omega) | omega | (simp [World.setCell]; omega)); simp [go_sem, *] at f3_0_0_0); try (have e3_0_0_1 := hb3.cell (p := ⟨w.heap.size, 1, none⟩) (by first | (simp; done) | (simp; omega) | omega | (simp [World.setCell]; omega)); simp [go_sem, *] at e3_0_0_1); try (have f3_0_0_1 := hb3.frozen (p := ⟨w.heap.size, 1, none⟩) (by first | (simp; done) | (simp; omega) | omega | (simp [World.setCell]; omega)); simp [go_sem, *] at f3_0_0_1); try (have e3_0_1_0 := hb3.cell (p := ⟨w.heap.size + 1, 0, none⟩) (by first | (simp; done) | (simp; omega) | omega | (simp [World.setCell]; omega)); simp [go_sem, *] at e3_0_1_0); try (have f3_0_1_0 := hb3.frozen (p := ⟨w.heap.size + 1, 0, none⟩) (by first | (simp; done) | (simp; omega) | omega | (simp [World.setCell]; omega)); simp [go_sem, *] at f3_0_1_0); try (have e3_0_1_1 := hb3.cell (p := ⟨w.heap.size + 1, 1, none⟩) (by first | (simp; done) | (simp; omega) | omega | (simp [World.setCell]; omega)); simp [go_sem, *] at e3_0_1_1); try (have f3_0_1_1 := hb3.frozen (p := ⟨w.heap.size + 1, 1, none⟩) (by first | (simp; done) | (simp; omega) | omega | (simp [World.setCell]; omega)); simp [go_sem, *] at f3_0_1_1); try (have e3_0_2_0 := hb3.cell (p := ⟨w.heap.size + 2, 0, none⟩) (by first | (simp; done) | (simp; omega) | omega | (simp [World.setCell]; omega)); simp [go_sem, *] at e3_0_2_0); try (have f3_0_2_0 := hb3.frozen (p := ⟨w.heap.size + 2, 0, none⟩) (by first | (simp; done) | (simp; omega) | omega | (simp [World.setCell]; omega)); simp [go_sem, *] at f3_0_2_0); try (have e3_0_2_1 := hb3.cell (p := ⟨w.heap.size + 2, 1, none⟩) (by first | (simp; done) | (simp; omega) | omega | (simp [World.setCell]; omega)); simp [go_sem, *] at e3_0_2_1); try (have f3_0_2_1 := hb3.frozen (p := ⟨w.heap.size + 2, 1, none⟩) (by first | (simp; done) | (simp; omega) | omega | (simp [World.setCell]; omega)); simp [go_sem, *] at f3_0_2_1); have r1 := hA.row.2.1; have r2 := hA.row.2.2 0 _ rfl; have r3 := hA.row.2.2 1 _ rfl; have HB3 : Hid (Below w.heap.size w w3) := Lib.hid (HB2.out.trans (hA.bel.mono HB2.out.size)); have r51 : gn < w3.heap.size + 1 := (by omega); clear hA hb3)))
  all_goals go_wp2_with (first | (refine wp_loop_unr 3 ?_; refine Unr.step ?_; intro U hU) | (refine Unr.step ?_; intro U hU))
  all_goals try simp only [Exit.inBlock, Exit.then]
  all_goals exact bodyPost_ret (v := .tuple #[.agg #[.pointer (some ⟨p, 0, none⟩), .int .i64 1], .agg #[.int .i64 0, .int .i64 0]]) (by simp [results, Tryz.results102, go_sem, *]) rfl ⟨rfl, by (repeat' (first | refine Below.setCell ?_ (by first | (simp; done) | (simp; omega) | omega | (simp [World.setCell]; omega)) _ | refine Below.alloc ?_ (by first | (simp; done) | (simp; omega) | omega | (simp [World.setCell]; omega)) _ | refine below_drewN' ?_ _ | refine Below.drew ?_ | exact Hid.out (by assumption) | exact Below.refl _ _))⟩
set_option maxRecDepth 100000 in
set_option maxHeartbeats 2000000 in
theorem find_0 (p n L : Nat) (T V : ByteArray) (hD : Doc T V n L) (w : World) (h : Ix w p T n) : Calls Tryz.prog 65 #[.pointer (some ⟨p, 0, none⟩), .string ⟨#[36, 91, 48, 93]⟩] w fun e w' => e = .returned (.tuple #[.agg #[.pointer (some ⟨p, 0, none⟩), .int .i64 1], .agg #[.int .i64 0, .int .i64 0]]) ∧ Below w.heap.size w w' := by
  have hn := hD.n3
  have hn1 := hD.n1
  have hL := hD.hL
  have hs := hD.hn
  have hv := hD.vs
  go_enter Tryz.func65, Tryz.ntmps65
  go_wp2_with fail
  refine (parse_any _).mono ?_; rintro e w1 ⟨q, c, s, rfl, hq, hs9, hP, hb1⟩
  have s1 := hb1.size; try simp at s1
  try (have l1_0_0_0 : w.heap.size < w1.heap.size := by omega)
  try (have l1_0_0_1 : w.heap.size < w1.heap.size + 1 := by omega)
  try (have l1_0_0_2 : w.heap.size < w1.heap.size + 1 + 1 := by omega)
  try (have l1_0_1_0 : w.heap.size + 1 < w1.heap.size := by omega)
  try (have l1_0_1_1 : w.heap.size + 1 < w1.heap.size + 1 := by omega)
  try (have l1_0_1_2 : w.heap.size + 1 < w1.heap.size + 1 + 1 := by omega)
  try (have e1_0_0_0 := hb1.cell (p := ⟨w.heap.size, 0, none⟩) (by first | (simp; done) | (simp; omega) | omega | (simp [World.setCell]; omega)); simp [go_sem, *] at e1_0_0_0)
  try (have f1_0_0_0 := hb1.frozen (p := ⟨w.heap.size, 0, none⟩) (by first | (simp; done) | (simp; omega) | omega | (simp [World.setCell]; omega)); simp [go_sem, *] at f1_0_0_0)
  try (have e1_0_0_1 := hb1.cell (p := ⟨w.heap.size, 1, none⟩) (by first | (simp; done) | (simp; omega) | omega | (simp [World.setCell]; omega)); simp [go_sem, *] at e1_0_0_1)
  try (have f1_0_0_1 := hb1.frozen (p := ⟨w.heap.size, 1, none⟩) (by first | (simp; done) | (simp; omega) | omega | (simp [World.setCell]; omega)); simp [go_sem, *] at f1_0_0_1)
  try (have e1_0_1_0 := hb1.cell (p := ⟨w.heap.size + 1, 0, none⟩) (by first | (simp; done) | (simp; omega) | omega | (simp [World.setCell]; omega)); simp [go_sem, *] at e1_0_1_0)
  try (have f1_0_1_0 := hb1.frozen (p := ⟨w.heap.size + 1, 0, none⟩) (by first | (simp; done) | (simp; omega) | omega | (simp [World.setCell]; omega)); simp [go_sem, *] at f1_0_1_0)
  try (have e1_0_1_1 := hb1.cell (p := ⟨w.heap.size + 1, 1, none⟩) (by first | (simp; done) | (simp; omega) | omega | (simp [World.setCell]; omega)); simp [go_sem, *] at e1_0_1_1)
  try (have f1_0_1_1 := hb1.frozen (p := ⟨w.heap.size + 1, 1, none⟩) (by first | (simp; done) | (simp; omega) | omega | (simp [World.setCell]; omega)); simp [go_sem, *] at f1_0_1_1)
  have HB1 := bel_step (w := w) (by (repeat' (first | refine Below.setCell ?_ (by first | (simp; done) | (simp; omega) | omega | (simp [World.setCell]; omega)) _ | refine Below.alloc ?_ (by first | (simp; done) | (simp; omega) | omega | (simp [World.setCell]; omega)) _ | refine below_drewN' ?_ _ | refine Below.drew ?_ | exact Hid.out (by assumption) | exact Below.refl _ _))) hb1
  clear hb1
  go_wp2_with fail
  refine (normal_0 q c s _ (hP.below (by (repeat' (first | refine Below.setCell ?_ (by first | (simp; done) | (simp; omega) | omega | (simp [World.setCell]; omega)) _ | refine Below.alloc ?_ (by first | (simp; done) | (simp; omega) | omega | (simp [World.setCell]; omega)) _ | refine below_drewN' ?_ _ | refine Below.drew ?_ | exact Hid.out (by assumption) | exact Below.refl _ _))))).mono ?_; rintro e w2 ⟨rfl, hb2⟩
  have s2 := hb2.size; try simp at s2
  try (have l2_0_0_0 : w.heap.size < w2.heap.size := by omega)
  try (have l2_0_0_1 : w.heap.size < w2.heap.size + 1 := by omega)
  try (have l2_0_0_2 : w.heap.size < w2.heap.size + 1 + 1 := by omega)
  try (have l2_0_1_0 : w.heap.size + 1 < w2.heap.size := by omega)
  try (have l2_0_1_1 : w.heap.size + 1 < w2.heap.size + 1 := by omega)
  try (have l2_0_1_2 : w.heap.size + 1 < w2.heap.size + 1 + 1 := by omega)
  try (have l2_1_0_0 : w1.heap.size < w2.heap.size := by omega)
  try (have l2_1_0_1 : w1.heap.size < w2.heap.size + 1 := by omega)
  try (have l2_1_0_2 : w1.heap.size < w2.heap.size + 1 + 1 := by omega)
  try (have l2_1_1_0 : w1.heap.size + 1 < w2.heap.size := by omega)
  try (have l2_1_1_1 : w1.heap.size + 1 < w2.heap.size + 1 := by omega)
  try (have l2_1_1_2 : w1.heap.size + 1 < w2.heap.size + 1 + 1 := by omega)
  try (have e2_0_0_0 := hb2.cell (p := ⟨w.heap.size, 0, none⟩) (by first | (simp; done) | (simp; omega) | omega | (simp [World.setCell]; omega)); simp [go_sem, *] at e2_0_0_0)
  try (have f2_0_0_0 := hb2.frozen (p := ⟨w.heap.size, 0, none⟩) (by first | (simp; done) | (simp; omega) | omega | (simp [World.setCell]; omega)); simp [go_sem, *] at f2_0_0_0)
  try (have e2_0_0_1 := hb2.cell (p := ⟨w.heap.size, 1, none⟩) (by first | (simp; done) | (simp; omega) | omega | (simp [World.setCell]; omega)); simp [go_sem, *] at e2_0_0_1)
  try (have f2_0_0_1 := hb2.frozen (p := ⟨w.heap.size, 1, none⟩) (by first | (simp; done) | (simp; omega) | omega | (simp [World.setCell]; omega)); simp [go_sem, *] at f2_0_0_1)
  try (have e2_0_1_0 := hb2.cell (p := ⟨w.heap.size + 1, 0, none⟩) (by first | (simp; done) | (simp; omega) | omega | (simp [World.setCell]; omega)); simp [go_sem, *] at e2_0_1_0)
  try (have f2_0_1_0 := hb2.frozen (p := ⟨w.heap.size + 1, 0, none⟩) (by first | (simp; done) | (simp; omega) | omega | (simp [World.setCell]; omega)); simp [go_sem, *] at f2_0_1_0)
  try (have e2_0_1_1 := hb2.cell (p := ⟨w.heap.size + 1, 1, none⟩) (by first | (simp; done) | (simp; omega) | omega | (simp [World.setCell]; omega)); simp [go_sem, *] at e2_0_1_1)
  try (have f2_0_1_1 := hb2.frozen (p := ⟨w.heap.size + 1, 1, none⟩) (by first | (simp; done) | (simp; omega) | omega | (simp [World.setCell]; omega)); simp [go_sem, *] at f2_0_1_1)
  try (have e2_1_0_0 := hb2.cell (p := ⟨w1.heap.size, 0, none⟩) (by first | (simp; done) | (simp; omega) | omega | (simp [World.setCell]; omega)); simp [go_sem, *] at e2_1_0_0)
  try (have f2_1_0_0 := hb2.frozen (p := ⟨w1.heap.size, 0, none⟩) (by first | (simp; done) | (simp; omega) | omega | (simp [World.setCell]; omega)); simp [go_sem, *] at f2_1_0_0)
  try (have e2_1_0_1 := hb2.cell (p := ⟨w1.heap.size, 1, none⟩) (by first | (simp; done) | (simp; omega) | omega | (simp [World.setCell]; omega)); simp [go_sem, *] at e2_1_0_1)
  try (have f2_1_0_1 := hb2.frozen (p := ⟨w1.heap.size, 1, none⟩) (by first | (simp; done) | (simp; omega) | omega | (simp [World.setCell]; omega)); simp [go_sem, *] at f2_1_0_1)
  try (have e2_1_1_0 := hb2.cell (p := ⟨w1.heap.size + 1, 0, none⟩) (by first | (simp; done) | (simp; omega) | omega | (simp [World.setCell]; omega)); simp [go_sem, *] at e2_1_1_0)
  try (have f2_1_1_0 := hb2.frozen (p := ⟨w1.heap.size + 1, 0, none⟩) (by first | (simp; done) | (simp; omega) | omega | (simp [World.setCell]; omega)); simp [go_sem, *] at f2_1_1_0)
  try (have e2_1_1_1 := hb2.cell (p := ⟨w1.heap.size + 1, 1, none⟩) (by first | (simp; done) | (simp; omega) | omega | (simp [World.setCell]; omega)); simp [go_sem, *] at e2_1_1_1)
  try (have f2_1_1_1 := hb2.frozen (p := ⟨w1.heap.size + 1, 1, none⟩) (by first | (simp; done) | (simp; omega) | omega | (simp [World.setCell]; omega)); simp [go_sem, *] at f2_1_1_1)
  have HB2 := bel_step (w := w) (by (repeat' (first | refine Below.setCell ?_ (by first | (simp; done) | (simp; omega) | omega | (simp [World.setCell]; omega)) _ | refine Below.alloc ?_ (by first | (simp; done) | (simp; omega) | omega | (simp [World.setCell]; omega)) _ | refine below_drewN' ?_ _ | refine Below.drew ?_ | exact Hid.out (by assumption) | exact Below.refl _ _))) hb2
  have HP2 : Hid (Pa w2 q s) := Lib.hid ((hP.below (by (repeat' (first | refine Below.setCell ?_ (by first | (simp; done) | (simp; omega) | omega | (simp [World.setCell]; omega)) _ | refine Below.alloc ?_ (by first | (simp; done) | (simp; omega) | omega | (simp [World.setCell]; omega)) _ | refine below_drewN' ?_ _ | refine Below.drew ?_ | exact Hid.out (by assumption) | exact Below.refl _ _)))).below hb2)
  clear hb2
  go_wp2_with fail
  refine (efirst_0 p n L T V hD q c s _ (h.below (by (repeat' (first | refine Below.setCell ?_ (by first | (simp; done) | (simp; omega) | omega | (simp [World.setCell]; omega)) _ | refine Below.alloc ?_ (by first | (simp; done) | (simp; omega) | omega | (simp [World.setCell]; omega)) _ | refine below_drewN' ?_ _ | refine Below.drew ?_ | exact Hid.out (by assumption) | exact Below.refl _ _)))) (HP2.out.below (by (repeat' (first | refine Below.setCell ?_ (by first | (simp; done) | (simp; omega) | omega | (simp [World.setCell]; omega)) _ | refine Below.alloc ?_ (by first | (simp; done) | (simp; omega) | omega | (simp [World.setCell]; omega)) _ | refine below_drewN' ?_ _ | refine Below.drew ?_ | exact Hid.out (by assumption) | exact Below.refl _ _))))).mono ?_; rintro e w3 ⟨rfl, hb3⟩
  have s3 := hb3.size; try simp at s3
  try (have l3_0_0_0 : w.heap.size < w3.heap.size := by omega)
  try (have l3_0_0_1 : w.heap.size < w3.heap.size + 1 := by omega)
  try (have l3_0_0_2 : w.heap.size < w3.heap.size + 1 + 1 := by omega)
  try (have l3_0_1_0 : w.heap.size + 1 < w3.heap.size := by omega)
  try (have l3_0_1_1 : w.heap.size + 1 < w3.heap.size + 1 := by omega)
  try (have l3_0_1_2 : w.heap.size + 1 < w3.heap.size + 1 + 1 := by omega)
  try (have e3_0_0_0 := hb3.cell (p := ⟨w.heap.size, 0, none⟩) (by first | (simp; done) | (simp; omega) | omega | (simp [World.setCell]; omega)); simp [go_sem, *] at e3_0_0_0)
  try (have f3_0_0_0 := hb3.frozen (p := ⟨w.heap.size, 0, none⟩) (by first | (simp; done) | (simp; omega) | omega | (simp [World.setCell]; omega)); simp [go_sem, *] at f3_0_0_0)
  try (have e3_0_0_1 := hb3.cell (p := ⟨w.heap.size, 1, none⟩) (by first | (simp; done) | (simp; omega) | omega | (simp [World.setCell]; omega)); simp [go_sem, *] at e3_0_0_1)
  try (have f3_0_0_1 := hb3.frozen (p := ⟨w.heap.size, 1, none⟩) (by first | (simp; done) | (simp; omega) | omega | (simp [World.setCell]; omega)); simp [go_sem, *] at f3_0_0_1)
  try (have e3_0_1_0 := hb3.cell (p := ⟨w.heap.size + 1, 0, none⟩) (by first | (simp; done) | (simp; omega) | omega | (simp [World.setCell]; omega)); simp [go_sem, *] at e3_0_1_0)
  try (have f3_0_1_0 := hb3.frozen (p := ⟨w.heap.size + 1, 0, none⟩) (by first | (simp; done) | (simp; omega) | omega | (simp [World.setCell]; omega)); simp [go_sem, *] at f3_0_1_0)
  try (have e3_0_1_1 := hb3.cell (p := ⟨w.heap.size + 1, 1, none⟩) (by first | (simp; done) | (simp; omega) | omega | (simp [World.setCell]; omega)); simp [go_sem, *] at e3_0_1_1)
  try (have f3_0_1_1 := hb3.frozen (p := ⟨w.heap.size + 1, 1, none⟩) (by first | (simp; done) | (simp; omega) | omega | (simp [World.setCell]; omega)); simp [go_sem, *] at f3_0_1_1)
  have HB3 := bel_step (w := w) (by (repeat' (first | refine Below.setCell ?_ (by first | (simp; done) | (simp; omega) | omega | (simp [World.setCell]; omega)) _ | refine Below.alloc ?_ (by first | (simp; done) | (simp; omega) | omega | (simp [World.setCell]; omega)) _ | refine below_drewN' ?_ _ | refine Below.drew ?_ | exact Hid.out (by assumption) | exact Below.refl _ _))) hb3
  clear hb3
  go_wp2_with fail
  try simp only [Exit.inBlock, Exit.then]
  refine bodyPost_ret (v := .tuple #[.agg #[.pointer (some ⟨p, 0, none⟩), .int .i64 1], .agg #[.int .i64 0, .int .i64 0]]) (by simp [results, Tryz.results65, go_sem, *]) rfl ⟨rfl, by (repeat' (first | refine Below.setCell ?_ (by first | (simp; done) | (simp; omega) | omega | (simp [World.setCell]; omega)) _ | refine Below.alloc ?_ (by first | (simp; done) | (simp; omega) | omega | (simp [World.setCell]; omega)) _ | refine below_drewN' ?_ _ | refine Below.drew ?_ | exact Hid.out (by assumption) | exact Below.refl _ _))⟩
end Go.Proofs.YtjelneeeijjpiaaGreatDoor
end
