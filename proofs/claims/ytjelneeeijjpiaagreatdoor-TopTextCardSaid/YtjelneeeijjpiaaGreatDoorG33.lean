/- TopText: walks and plain laws, part 33: lemmas on what the functions that the law comes to compute. -/
import Derived.Test.YtjelneeeijjpiaaGreatDoorG24
import Derived.Recover
import Derived.Defers
import Derived.Laws.Pointers
import Derived.Test.YtjelneeeijjpiaaGreatDoorG32
set_option linter.unusedVariables false
set_option linter.unusedSimpArgs false
section
namespace Go.Proofs.YtjelneeeijjpiaaGreatDoor
open Go.RowKit
set_option maxRecDepth 100000 in
set_option maxHeartbeats 2000000 in
theorem need_t  (w : World) : Calls Tryz.prog 197 #[.bool true] w fun e w' => e = .returned (.tuple #[]) ∧ w = w' := by
  go_enter Tryz.func197, Tryz.ntmps197
  go_wp2_with fail
  go_end0
  exact ⟨rfl, rfl⟩
set_option maxRecDepth 100000 in
set_option maxHeartbeats 2000000 in
theorem within_1  (w : World) : Calls Tryz.prog 199 #[.int .i64 0, .int .i64 1, .int .i64 1] w fun e w' => e = .returned (.tuple #[]) ∧ w = w' := by
  go_enter Tryz.func199, Tryz.ntmps199
  go_wp2_with (first | (go_at_call 197; refine (need_t _).mono ?_; rintro e w9 ⟨rfl, rfl⟩))
  go_wp2_with fail
  go_end0
  exact ⟨rfl, rfl⟩
set_option maxRecDepth 100000 in
set_option maxHeartbeats 2000000 in
theorem vpath_0 (gp cp gs cs gl cl : Nat) (k1 : 1 ≤ cs) (k2 : 1 ≤ cl) (w : World) (h : Cd gp gs gl w) : Calls Tryz.prog 198 #[.agg #[.slice (some ⟨gp, 0, none⟩) 1 (cp : Nat), .slice (some ⟨gs, 0, none⟩) 1 (cs : Nat), .slice (some ⟨gl, 0, none⟩) 1 (cl : Nat), .slice none 0 0], .int .i64 0] w fun e w' => e = .returned (.agg #[.bool true, .int .i64 0, .int .i64 1]) ∧ Below w.heap.size w w' := by
  go_enter Tryz.func198, Tryz.ntmps198
  have lgp := h.p.lt
  have lgp1 : gp < w.heap.size + 1 := by omega
  have lgp2 : gp < w.heap.size + 1 + 1 := by omega
  have lgp3 : gp < w.heap.size + 1 + 1 + 1 := by omega
  have lgp4 : gp < w.heap.size + 1 + 1 + 1 + 1 := by omega
  have lgp5 : gp < w.heap.size + 1 + 1 + 1 + 1 + 1 := by omega
  have lgp6 : gp < w.heap.size + 1 + 1 + 1 + 1 + 1 + 1 := by omega
  have lgp7 : gp < w.heap.size + 1 + 1 + 1 + 1 + 1 + 1 + 1 := by omega
  have lgs := h.s.lt
  have lgs1 : gs < w.heap.size + 1 := by omega
  have lgs2 : gs < w.heap.size + 1 + 1 := by omega
  have lgs3 : gs < w.heap.size + 1 + 1 + 1 := by omega
  have lgs4 : gs < w.heap.size + 1 + 1 + 1 + 1 := by omega
  have lgs5 : gs < w.heap.size + 1 + 1 + 1 + 1 + 1 := by omega
  have lgs6 : gs < w.heap.size + 1 + 1 + 1 + 1 + 1 + 1 := by omega
  have lgs7 : gs < w.heap.size + 1 + 1 + 1 + 1 + 1 + 1 + 1 := by omega
  have lgl := h.l.lt
  have lgl1 : gl < w.heap.size + 1 := by omega
  have lgl2 : gl < w.heap.size + 1 + 1 := by omega
  have lgl3 : gl < w.heap.size + 1 + 1 + 1 := by omega
  have lgl4 : gl < w.heap.size + 1 + 1 + 1 + 1 := by omega
  have lgl5 : gl < w.heap.size + 1 + 1 + 1 + 1 + 1 := by omega
  have lgl6 : gl < w.heap.size + 1 + 1 + 1 + 1 + 1 + 1 := by omega
  have lgl7 : gl < w.heap.size + 1 + 1 + 1 + 1 + 1 + 1 + 1 := by omega
  have dp0 := h.p.c0
  have dp1 := h.p.c1
  have dp2 := h.p.c2
  have ds0 := h.s.c0
  have ds1 := h.s.c1
  have ds2 := h.s.c2
  have dl0 := h.l.c0
  have dl1 := h.l.c1
  have dl2 := h.l.c2
  have dl3 := h.l.c3
  have dl4 := h.l.c4
  have dl5 := h.l.c5
  have dl6 := h.l.c6
  have dl7 := h.l.c7
  have k1i : (1 : Int) ≤ (cs : Int) := by omega
  have k2i : (1 : Int) ≤ (cl : Int) := by omega
  have k1j : ¬ (cs : Int) < 1 := by omega
  have k2j : ¬ (cl : Int) < 1 := by omega
  go_wp2_with (first | (go_at_call 197; refine (need_t _).mono ?_; rintro e w9 ⟨rfl, rfl⟩) | (go_at_call 199; refine (within_1 _).mono ?_; rintro e w9 ⟨rfl, rfl⟩) | (refine wp_loop_unr 3 ?_; refine Unr.step ?_; intro U hU) | (refine Unr.step ?_; intro U hU))
  go_wp2_with fail
  try simp only [Exit.inBlock, Exit.then]
  refine bodyPost_ret (v := .agg #[.bool true, .int .i64 0, .int .i64 1]) (by simp [results, Tryz.results198, go_sem, *]) rfl ⟨rfl, by (repeat' (first | refine Below.setCell ?_ (by first | (simp; done) | (simp; omega) | omega | (simp [World.setCell]; omega)) _ | refine Below.alloc ?_ (by first | (simp; done) | (simp; omega) | omega | (simp [World.setCell]; omega)) _ | refine below_drewN' ?_ _ | refine Below.drew ?_ | exact Hid.out (by assumption) | exact Below.refl _ _))⟩
theorem caught_idle (p : Addr) (w : World) (hc : w.cell? p = some (.bool true)) (hz : w.frozen? p = false) :
    CallsD Tryz.prog 196 #[.pointer (some p)] .returning w fun e u' w' => e = .returned (.tuple #[]) ∧ u' = .returning ∧ w' = w.setCell p (.bool true) := by
  refine callsD_of_wpS Tryz.func196 rfl fun c₀ cs hu => ?_
  apply wpS_seq
  apply wpS_region
  simp [wpOpsS, go_sem, recoverD, hu, Tryz.ntmps196, Exit.thenS]
  refine wpS_of_wp ?_
  go_wp2
  cases c₀
  simp_all [bodyPostS, results, Tryz.results196]
set_option maxRecDepth 100000 in
set_option maxHeartbeats 2000000 in
theorem sound_0 (gp cp gs cs gl cl : Nat) (k1 : 1 ≤ cs) (k2 : 1 ≤ cl) (w : World) (h : Cd gp gs gl w) : Calls Tryz.prog 144 #[.agg #[.slice (some ⟨gp, 0, none⟩) 1 (cp : Nat), .slice (some ⟨gs, 0, none⟩) 1 (cs : Nat), .slice (some ⟨gl, 0, none⟩) 1 (cl : Nat), .slice none 0 0]] w fun e w' => e = .returned (.bool true) ∧ Below w.heap.size w w' := by
  have hmf : ∀ (fn : Fn) (first cap : Array Value) (w : World), (Instr.makeFunc fn first cap).run Tryz.prog w = .ok (.func fn first cap) w := fun _ _ _ _ => rfl
  go_enter_defers Tryz.func144, Tryz.ntmps144
  have lgp := h.p.lt
  have lgp1 : gp < w.heap.size + 1 := by omega
  have lgp2 : gp < w.heap.size + 1 + 1 := by omega
  have lgp3 : gp < w.heap.size + 1 + 1 + 1 := by omega
  have lgp4 : gp < w.heap.size + 1 + 1 + 1 + 1 := by omega
  have lgp5 : gp < w.heap.size + 1 + 1 + 1 + 1 + 1 := by omega
  have lgp6 : gp < w.heap.size + 1 + 1 + 1 + 1 + 1 + 1 := by omega
  have lgp7 : gp < w.heap.size + 1 + 1 + 1 + 1 + 1 + 1 + 1 := by omega
  have lgs := h.s.lt
  have lgs1 : gs < w.heap.size + 1 := by omega
  have lgs2 : gs < w.heap.size + 1 + 1 := by omega
  have lgs3 : gs < w.heap.size + 1 + 1 + 1 := by omega
  have lgs4 : gs < w.heap.size + 1 + 1 + 1 + 1 := by omega
  have lgs5 : gs < w.heap.size + 1 + 1 + 1 + 1 + 1 := by omega
  have lgs6 : gs < w.heap.size + 1 + 1 + 1 + 1 + 1 + 1 := by omega
  have lgs7 : gs < w.heap.size + 1 + 1 + 1 + 1 + 1 + 1 + 1 := by omega
  have lgl := h.l.lt
  have lgl1 : gl < w.heap.size + 1 := by omega
  have lgl2 : gl < w.heap.size + 1 + 1 := by omega
  have lgl3 : gl < w.heap.size + 1 + 1 + 1 := by omega
  have lgl4 : gl < w.heap.size + 1 + 1 + 1 + 1 := by omega
  have lgl5 : gl < w.heap.size + 1 + 1 + 1 + 1 + 1 := by omega
  have lgl6 : gl < w.heap.size + 1 + 1 + 1 + 1 + 1 + 1 := by omega
  have lgl7 : gl < w.heap.size + 1 + 1 + 1 + 1 + 1 + 1 + 1 := by omega
  have dp0 := h.p.c0
  have dp1 := h.p.c1
  have dp2 := h.p.c2
  have ds0 := h.s.c0
  have ds1 := h.s.c1
  have ds2 := h.s.c2
  have dl0 := h.l.c0
  have dl1 := h.l.c1
  have dl2 := h.l.c2
  have dl3 := h.l.c3
  have dl4 := h.l.c4
  have dl5 := h.l.c5
  have dl6 := h.l.c6
  have dl7 := h.l.c7
  have k1i : (1 : Int) ≤ (cs : Int) := by omega
  have k2i : (1 : Int) ≤ (cl : Int) := by omega
  have k1j : ¬ (cs : Int) < 1 := by omega
  have k2j : ¬ (cl : Int) < 1 := by omega
  go_wp2_with (first | (go_at_call 197; refine (need_t _).mono ?_; rintro e w9 ⟨rfl, rfl⟩) | (go_at_call 199; refine (within_1 _).mono ?_; rintro e w9 ⟨rfl, rfl⟩) | (refine wp_loop_unr 3 ?_; refine Unr.step ?_; intro U hU) | (refine Unr.step ?_; intro U hU))
  refine (vpath_0 gp cp gs cs gl cl k1 k2 _ (h.below (by (repeat' (first | refine Below.setCell ?_ (by first | (simp; done) | (simp; omega) | omega | (simp [World.setCell]; omega)) _ | refine Below.alloc ?_ (by first | (simp; done) | (simp; omega) | omega | (simp [World.setCell]; omega)) _ | refine below_drewN' ?_ _ | refine Below.drew ?_ | exact Hid.out (by assumption) | exact Below.refl _ _))))).mono ?_; rintro e w1 ⟨rfl, hb1⟩
  have s1 := hb1.size; try simp at s1
  try (have l1_0_0_0 : w.heap.size < w1.heap.size := by omega)
  try (have l1_0_0_1 : w.heap.size < w1.heap.size + 1 := by omega)
  try (have l1_0_0_2 : w.heap.size < w1.heap.size + 1 + 1 := by omega)
  try (have l1_0_1_0 : w.heap.size + 1 < w1.heap.size := by omega)
  try (have l1_0_1_1 : w.heap.size + 1 < w1.heap.size + 1 := by omega)
  try (have l1_0_1_2 : w.heap.size + 1 < w1.heap.size + 1 + 1 := by omega)
  try (have e1_0_0_0 := hb1.cell (p := ⟨w.heap.size, 0, none⟩) (by first | (simp; done) | (simp; omega) | omega | (simp [World.setCell]; omega)); simp [go_sem, *] at e1_0_0_0)
  try (have f1_0_0_0 := hb1.frozen (p := ⟨w.heap.size, 0, none⟩) (by first | (simp; done) | (simp; omega) | omega | (simp [World.setCell]; omega)); simp [go_sem, *] at f1_0_0_0)
  try (have e1_0_0_1 := hb1.cell (p := ⟨w.heap.size, 1, none⟩) (by first | (simp; done) | (simp; omega) | omega | (simp [World.setCell]; omega)); simp [go_sem, *] at e1_0_0_1)
  try (have f1_0_0_1 := hb1.frozen (p := ⟨w.heap.size, 1, none⟩) (by first | (simp; done) | (simp; omega) | omega | (simp [World.setCell]; omega)); simp [go_sem, *] at f1_0_0_1)
  try (have e1_0_0_2 := hb1.cell (p := ⟨w.heap.size, 2, none⟩) (by first | (simp; done) | (simp; omega) | omega | (simp [World.setCell]; omega)); simp [go_sem, *] at e1_0_0_2)
  try (have f1_0_0_2 := hb1.frozen (p := ⟨w.heap.size, 2, none⟩) (by first | (simp; done) | (simp; omega) | omega | (simp [World.setCell]; omega)); simp [go_sem, *] at f1_0_0_2)
  try (have e1_0_0_3 := hb1.cell (p := ⟨w.heap.size, 3, none⟩) (by first | (simp; done) | (simp; omega) | omega | (simp [World.setCell]; omega)); simp [go_sem, *] at e1_0_0_3)
  try (have f1_0_0_3 := hb1.frozen (p := ⟨w.heap.size, 3, none⟩) (by first | (simp; done) | (simp; omega) | omega | (simp [World.setCell]; omega)); simp [go_sem, *] at f1_0_0_3)
  try (have e1_0_1_0 := hb1.cell (p := ⟨w.heap.size + 1, 0, none⟩) (by first | (simp; done) | (simp; omega) | omega | (simp [World.setCell]; omega)); simp [go_sem, *] at e1_0_1_0)
  try (have f1_0_1_0 := hb1.frozen (p := ⟨w.heap.size + 1, 0, none⟩) (by first | (simp; done) | (simp; omega) | omega | (simp [World.setCell]; omega)); simp [go_sem, *] at f1_0_1_0)
  have HB1 := bel_step (w := w) (by (repeat' (first | refine Below.setCell ?_ (by first | (simp; done) | (simp; omega) | omega | (simp [World.setCell]; omega)) _ | refine Below.alloc ?_ (by first | (simp; done) | (simp; omega) | omega | (simp [World.setCell]; omega)) _ | refine below_drewN' ?_ _ | refine Below.drew ?_ | exact Hid.out (by assumption) | exact Below.refl _ _))) hb1
  clear hb1
  have h1 := h.below HB1.out
  have lxgp := h1.p.lt
  have lxgp1 : gp < w1.heap.size + 1 := by omega
  have lxgp2 : gp < w1.heap.size + 1 + 1 := by omega
  have lxgp3 : gp < w1.heap.size + 1 + 1 + 1 := by omega
  have lxgp4 : gp < w1.heap.size + 1 + 1 + 1 + 1 := by omega
  have lxgp5 : gp < w1.heap.size + 1 + 1 + 1 + 1 + 1 := by omega
  have lxgp6 : gp < w1.heap.size + 1 + 1 + 1 + 1 + 1 + 1 := by omega
  have lxgp7 : gp < w1.heap.size + 1 + 1 + 1 + 1 + 1 + 1 + 1 := by omega
  have lxgs := h1.s.lt
  have lxgs1 : gs < w1.heap.size + 1 := by omega
  have lxgs2 : gs < w1.heap.size + 1 + 1 := by omega
  have lxgs3 : gs < w1.heap.size + 1 + 1 + 1 := by omega
  have lxgs4 : gs < w1.heap.size + 1 + 1 + 1 + 1 := by omega
  have lxgs5 : gs < w1.heap.size + 1 + 1 + 1 + 1 + 1 := by omega
  have lxgs6 : gs < w1.heap.size + 1 + 1 + 1 + 1 + 1 + 1 := by omega
  have lxgs7 : gs < w1.heap.size + 1 + 1 + 1 + 1 + 1 + 1 + 1 := by omega
  have lxgl := h1.l.lt
  have lxgl1 : gl < w1.heap.size + 1 := by omega
  have lxgl2 : gl < w1.heap.size + 1 + 1 := by omega
  have lxgl3 : gl < w1.heap.size + 1 + 1 + 1 := by omega
  have lxgl4 : gl < w1.heap.size + 1 + 1 + 1 + 1 := by omega
  have lxgl5 : gl < w1.heap.size + 1 + 1 + 1 + 1 + 1 := by omega
  have lxgl6 : gl < w1.heap.size + 1 + 1 + 1 + 1 + 1 + 1 := by omega
  have lxgl7 : gl < w1.heap.size + 1 + 1 + 1 + 1 + 1 + 1 + 1 := by omega
  have dxp0 := h1.p.c0
  have dxp1 := h1.p.c1
  have dxp2 := h1.p.c2
  have dxs0 := h1.s.c0
  have dxs1 := h1.s.c1
  have dxs2 := h1.s.c2
  have dxl0 := h1.l.c0
  have dxl1 := h1.l.c1
  have dxl2 := h1.l.c2
  have dxl3 := h1.l.c3
  have dxl4 := h1.l.c4
  have dxl5 := h1.l.c5
  have dxl6 := h1.l.c6
  have dxl7 := h1.l.c7
  go_wp2_with (first | (go_at_call 197; refine (need_t _).mono ?_; rintro e w9 ⟨rfl, rfl⟩) | (go_at_call 199; refine (within_1 _).mono ?_; rintro e w9 ⟨rfl, rfl⟩) | (refine wp_loop_unr 3 ?_; refine Unr.step ?_; intro U hU) | (refine Unr.step ?_; intro U hU))
  refine leaves_cons (f := 196) (args := #[.pointer (some ⟨w.heap.size + 1, 0, none⟩)]) (by simp) (by simp [go_sem]) ?_
  refine (caught_idle ⟨w.heap.size + 1, 0, none⟩ _ (by simp [go_sem, *]) (by simp [go_sem, *])).mono ?_
  rintro e u' w'' ⟨rfl, rfl, rfl⟩
  simp [Leaves, settle, results, Tryz.results144, go_sem, *]
  repeat' (first | refine Below.setCell ?_ (by first | (simp; done) | (simp; omega) | omega | (simp [World.setCell]; omega)) _ | refine Below.alloc ?_ (by first | (simp; done) | (simp; omega) | omega | (simp [World.setCell]; omega)) _ | refine below_drewN' ?_ _ | refine Below.drew ?_ | exact Hid.out (by assumption) | exact Below.refl _ _)
end Go.Proofs.YtjelneeeijjpiaaGreatDoor
end
section
namespace Go.Proofs.YtjelneeeijjpiaaGreatDoor
open Go.RowKit
def WalkedP (w0 : World) (p : Nat) (e : Ending) (w' : World) : Prop := ∃ g c, e = .returned (.tuple #[.slice (some ⟨g, 0, none⟩) 1 c, .int .i64 0]) ∧ Below w0.heap.size w0 w' ∧ Cw p g w' ∧ w0.heap.size ≤ g
set_option maxRecDepth 100000 in
set_option maxHeartbeats 2000000 in
theorem walked_0 (p n L : Nat) (T V : ByteArray) (hD : Doc T V n L) (gp cp gs cs gl cl m : Nat) (mo : Int) (hmo : 1 ≤ mo) (w0 : World) (hX : Ix w0 p T n) (hmg : gp ≠ m ∧ gs ≠ m ∧ gl ≠ m) (hBm : w0.heap.size ≤ m) (w : World) (h0 : Below w0.heap.size w0 w) (hM : Mc gp cp gs cs gl cl p 0 m w) (hC : Cd gp gs gl w) : Calls Tryz.prog 146 #[.pointer (some ⟨m, 0, none⟩), .int .i64 0, .agg #[.pointer (some ⟨p, 0, none⟩), .int .i64 (-1)], .int .i64 mo] w fun e w' => WalkedP w0 p e w' := by
  go_enter Tryz.func146, Tryz.ntmps146
  have mlt := hM.lt
  have mlt1 : m < w.heap.size + 1 := by omega
  have mlt2 : m < w.heap.size + 1 + 1 := by omega
  have mlt3 : m < w.heap.size + 1 + 1 + 1 := by omega
  have mlt4 : m < w.heap.size + 1 + 1 + 1 + 1 := by omega
  have mlt5 : m < w.heap.size + 1 + 1 + 1 + 1 + 1 := by omega
  have m0 := hM.c0
  have m1 := hM.c1
  have m2 := hM.c2
  have m3 := hM.c3
  have m4 := hM.c4
  have m5 := hM.c5
  have m6 := hM.c6
  have mz6 := hM.z6
  have gplt0 : gp < w.heap.size := by have := hC.p.lt; omega
  have gplt1 : gp < w.heap.size + 1 := by have := hC.p.lt; omega
  have gplt2 : gp < w.heap.size + 1 + 1 := by have := hC.p.lt; omega
  have gplt3 : gp < w.heap.size + 1 + 1 + 1 := by have := hC.p.lt; omega
  have gplt4 : gp < w.heap.size + 1 + 1 + 1 + 1 := by have := hC.p.lt; omega
  have gplt5 : gp < w.heap.size + 1 + 1 + 1 + 1 + 1 := by have := hC.p.lt; omega
  have gslt0 : gs < w.heap.size := by have := hC.s.lt; omega
  have gslt1 : gs < w.heap.size + 1 := by have := hC.s.lt; omega
  have gslt2 : gs < w.heap.size + 1 + 1 := by have := hC.s.lt; omega
  have gslt3 : gs < w.heap.size + 1 + 1 + 1 := by have := hC.s.lt; omega
  have gslt4 : gs < w.heap.size + 1 + 1 + 1 + 1 := by have := hC.s.lt; omega
  have gslt5 : gs < w.heap.size + 1 + 1 + 1 + 1 + 1 := by have := hC.s.lt; omega
  have gllt0 : gl < w.heap.size := by have := hC.l.lt; omega
  have gllt1 : gl < w.heap.size + 1 := by have := hC.l.lt; omega
  have gllt2 : gl < w.heap.size + 1 + 1 := by have := hC.l.lt; omega
  have gllt3 : gl < w.heap.size + 1 + 1 + 1 := by have := hC.l.lt; omega
  have gllt4 : gl < w.heap.size + 1 + 1 + 1 + 1 := by have := hC.l.lt; omega
  have gllt5 : gl < w.heap.size + 1 + 1 + 1 + 1 + 1 := by have := hC.l.lt; omega
  have dp0 := hC.p.c0
  have dp1 := hC.p.c1
  have dp2 := hC.p.c2
  have ds0 := hC.s.c0
  have ds1 := hC.s.c1
  have ds2 := hC.s.c2
  have dl0 := hC.l.c0
  have dl1 := hC.l.c1
  have dl2 := hC.l.c2
  have dl3 := hC.l.c3
  have dl4 := hC.l.c4
  have dl5 := hC.l.c5
  have dl6 := hC.l.c6
  have dl7 := hC.l.c7
  go_wp2_with fail
  have HB0 : Hid (Below w0.heap.size w0 w) := Lib.hid h0
  have w0le := h0.size
  have l1 := hC.p.lt; have l2 := hC.s.lt; have l3 := hC.l.lt; have l4 := hM.lt
  refine (run_0 p n L T V hD gp cp gs cs gl cl m (w.heap.size + 1 + 1) mo hmo w0 hX (by omega) ⟨by omega, by omega, by omega⟩ hmg (by omega) hBm _ (by (repeat' (first | refine Below.setCell ?_ (by first | (simp; done) | (simp; omega) | omega | (simp [World.setCell]; omega)) _ | refine Below.alloc ?_ (by first | (simp; done) | (simp; omega) | omega | (simp [World.setCell]; omega)) _ | refine below_drewN' ?_ _ | refine Below.drew ?_ | exact Hid.out (by assumption) | exact Below.refl _ _))) ⟨by simp, by simp [go_sem], by simp [go_sem], by simp [go_sem], by simp [go_sem], by simp [go_sem], by simp [go_sem], by simp [go_sem], by simp [go_sem], by simp [go_sem], by simp [go_sem], by simp [go_sem]⟩ (hM.below (by (repeat' (first | refine Below.setCell ?_ (by first | (simp; done) | (simp; omega) | omega | (simp [World.setCell]; omega)) _ | refine Below.alloc ?_ (by first | (simp; done) | (simp; omega) | omega | (simp [World.setCell]; omega)) _ | refine below_drewN' ?_ _ | refine Below.drew ?_ | exact Hid.out (by assumption) | exact Below.refl _ _)))) (hC.below (by (repeat' (first | refine Below.setCell ?_ (by first | (simp; done) | (simp; omega) | omega | (simp [World.setCell]; omega)) _ | refine Below.alloc ?_ (by first | (simp; done) | (simp; omega) | omega | (simp [World.setCell]; omega)) _ | refine below_drewN' ?_ _ | refine Below.drew ?_ | exact Hid.out (by assumption) | exact Below.refl _ _))))).mono ?_; rintro e w1 ⟨rfl, hb, st, g, c, hW1, hcf, hg⟩
  have y5 := hW1.c5; have y7 := hW1.c7; have ylt := hW1.lt
  go_wp2_with fail
  go_region
  go_wp2_with fail
  try simp only [Exit.inBlock, Exit.then]
  refine bodyPost_ret (v := .tuple #[.slice (some ⟨g, 0, none⟩) 1 c, .int .i64 0]) (by simp [results, Tryz.results146, go_sem, *]) rfl ⟨g, c, rfl, hb.drew, hcf.below (Below.refl _ _).drew, hg⟩
set_option maxRecDepth 100000 in
set_option maxHeartbeats 2000000 in
theorem run99_0 (p n L : Nat) (T V : ByteArray) (hD : Doc T V n L) (gp cp gs cs gl cl : Nat) (k1 : 1 ≤ cs) (k2 : 1 ≤ cl) (mo : Int) (hmo : 1 ≤ mo) (hmo2 : mo ≤ 5000) (w : World) (hX : Ix w p T n) (hC : Cd gp gs gl w) : Calls Tryz.prog 99 #[.agg #[.slice (some ⟨gp, 0, none⟩) 1 (cp : Nat), .slice (some ⟨gs, 0, none⟩) 1 (cs : Nat), .slice (some ⟨gl, 0, none⟩) 1 (cl : Nat), .slice none 0 0], .pointer (some ⟨p, 0, none⟩), .int .i64 mo] w fun e w' => WalkedP w p e w' := by
  have j1 : ¬ mo < 0 := by omega
  have j2 : ¬ 5000 < mo := by omega
  go_enter Tryz.func99, Tryz.ntmps99
  go_wp2_with fail
  refine (sound_0 gp cp gs cs gl cl k1 k2 _ (hC.below (by (repeat' (first | refine Below.setCell ?_ (by first | (simp; done) | (simp; omega) | omega | (simp [World.setCell]; omega)) _ | refine Below.alloc ?_ (by first | (simp; done) | (simp; omega) | omega | (simp [World.setCell]; omega)) _ | refine below_drewN' ?_ _ | refine Below.drew ?_ | exact Hid.out (by assumption) | exact Below.refl _ _))))).mono ?_; rintro e w1 ⟨rfl, hb1⟩
  have s1 := hb1.size; try simp at s1
  try (have l1_0_0_0 : w.heap.size < w1.heap.size := by omega)
  try (have l1_0_0_1 : w.heap.size < w1.heap.size + 1 := by omega)
  try (have l1_0_0_2 : w.heap.size < w1.heap.size + 1 + 1 := by omega)
  try (have e1_0_0_0 := hb1.cell (p := ⟨w.heap.size, 0, none⟩) (by first | (simp; done) | (simp; omega) | omega | (simp [World.setCell]; omega)); simp [go_sem, *] at e1_0_0_0)
  try (have f1_0_0_0 := hb1.frozen (p := ⟨w.heap.size, 0, none⟩) (by first | (simp; done) | (simp; omega) | omega | (simp [World.setCell]; omega)); simp [go_sem, *] at f1_0_0_0)
  try (have e1_0_0_1 := hb1.cell (p := ⟨w.heap.size, 1, none⟩) (by first | (simp; done) | (simp; omega) | omega | (simp [World.setCell]; omega)); simp [go_sem, *] at e1_0_0_1)
  try (have f1_0_0_1 := hb1.frozen (p := ⟨w.heap.size, 1, none⟩) (by first | (simp; done) | (simp; omega) | omega | (simp [World.setCell]; omega)); simp [go_sem, *] at f1_0_0_1)
  try (have e1_0_0_2 := hb1.cell (p := ⟨w.heap.size, 2, none⟩) (by first | (simp; done) | (simp; omega) | omega | (simp [World.setCell]; omega)); simp [go_sem, *] at e1_0_0_2)
  try (have f1_0_0_2 := hb1.frozen (p := ⟨w.heap.size, 2, none⟩) (by first | (simp; done) | (simp; omega) | omega | (simp [World.setCell]; omega)); simp [go_sem, *] at f1_0_0_2)
  try (have e1_0_0_3 := hb1.cell (p := ⟨w.heap.size, 3, none⟩) (by first | (simp; done) | (simp; omega) | omega | (simp [World.setCell]; omega)); simp [go_sem, *] at e1_0_0_3)
  try (have f1_0_0_3 := hb1.frozen (p := ⟨w.heap.size, 3, none⟩) (by first | (simp; done) | (simp; omega) | omega | (simp [World.setCell]; omega)); simp [go_sem, *] at f1_0_0_3)
  have HB1 := bel_step (w := w) (by (repeat' (first | refine Below.setCell ?_ (by first | (simp; done) | (simp; omega) | omega | (simp [World.setCell]; omega)) _ | refine Below.alloc ?_ (by first | (simp; done) | (simp; omega) | omega | (simp [World.setCell]; omega)) _ | refine below_drewN' ?_ _ | refine Below.drew ?_ | exact Hid.out (by assumption) | exact Below.refl _ _))) hb1
  clear hb1
  go_wp2_with fail
  have l1 := hC.p.lt; have l2 := hC.s.lt; have l3 := hC.l.lt
  go_region_law ((first | (go_simp; go_at_call 145; refine (root_any p _).mono ?_; rintro e w9 ⟨rfl, rfl⟩)))
  all_goals go_wp2_with fail
  all_goals (refine (walked_0 p n L T V hD gp cp gs cs gl cl (w1.heap.size + 1) mo hmo w hX ⟨by omega, by omega, by omega⟩ (by omega) _ (by (repeat' (first | refine Below.setCell ?_ (by first | (simp; done) | (simp; omega) | omega | (simp [World.setCell]; omega)) _ | refine Below.alloc ?_ (by first | (simp; done) | (simp; omega) | omega | (simp [World.setCell]; omega)) _ | refine below_drewN' ?_ _ | refine Below.drew ?_ | exact Hid.out (by assumption) | exact Below.refl _ _))) ⟨by simp, by simp [go_sem], by simp [go_sem], by simp [go_sem], by simp [go_sem], by simp [go_sem], by simp [go_sem], by simp [go_sem], by simp [go_sem]⟩ (hC.below (by (repeat' (first | refine Below.setCell ?_ (by first | (simp; done) | (simp; omega) | omega | (simp [World.setCell]; omega)) _ | refine Below.alloc ?_ (by first | (simp; done) | (simp; omega) | omega | (simp [World.setCell]; omega)) _ | refine below_drewN' ?_ _ | refine Below.drew ?_ | exact Hid.out (by assumption) | exact Below.refl _ _))))).mono ?_; rintro e w2 ⟨g, c, rfl, hb, hcf, hg⟩)
  all_goals go_wp2_with fail
  all_goals try simp only [Exit.inBlock, Exit.then]
  all_goals exact bodyPost_ret (v := .tuple #[.slice (some ⟨g, 0, none⟩) 1 c, .int .i64 0]) (by simp [results, Tryz.results99, go_sem, *]) rfl ⟨g, c, rfl, hb, hcf, hg⟩
end Go.Proofs.YtjelneeeijjpiaaGreatDoor
end
