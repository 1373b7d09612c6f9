/- TopText: walks and plain laws, part 27: lemmas on what the functions that the law comes to compute. -/
import Derived.Test.YtjelneeeijjpiaaGreatDoorG24
import Derived.Test.YtjelneeeijjpiaaGreatDoorG26
set_option linter.unusedVariables false
set_option linter.unusedSimpArgs false
section
namespace Go.Proofs.YtjelneeeijjpiaaGreatDoor
open Go.RowKit
set_option maxRecDepth 100000 in
set_option maxHeartbeats 2000000 in
theorem meet_0 (gp cp gs cs gl cl p m a : Nat) (fd : Value) (mo : Int) (w : World) (hW : Wk m (.slice none 0 0) fd mo a w) (hM : Mc gp cp gs cs gl cl p 0 m w) (hC : Cd gp gs gl w) : Calls Tryz.prog 260 #[.pointer (some ⟨a, 0, none⟩), .int .i64 0, .agg #[.pointer (some ⟨p, 0, none⟩), .int .i64 (-1)]] w fun e w' => DownP w a p e w' := by
  go_enter Tryz.func260, Tryz.ntmps260
  have alt := hW.lt
  have alt1 : a < w.heap.size + 1 := by omega
  have alt2 : a < w.heap.size + 1 + 1 := by omega
  have alt3 : a < w.heap.size + 1 + 1 + 1 := by omega
  have alt4 : a < w.heap.size + 1 + 1 + 1 + 1 := by omega
  have alt5 : a < w.heap.size + 1 + 1 + 1 + 1 + 1 := by omega
  have alt6 : a < w.heap.size + 1 + 1 + 1 + 1 + 1 + 1 := by omega
  have alt7 : a < w.heap.size + 1 + 1 + 1 + 1 + 1 + 1 + 1 := by omega
  have aw0 := hW.c0
  have aw1 := hW.c1
  have aw2 := hW.c2
  have aw3 := hW.c3
  have aw4 := hW.c4
  have aw5 := hW.c5
  have aw6 := hW.c6
  have aw7 := hW.c7
  have awz4 := hW.z4
  have awz5 := hW.z5
  have awz7 := hW.z7
  have mlt := hM.lt
  have mlt1 : m < w.heap.size + 1 := by omega
  have mlt2 : m < w.heap.size + 1 + 1 := by omega
  have mlt3 : m < w.heap.size + 1 + 1 + 1 := by omega
  have mlt4 : m < w.heap.size + 1 + 1 + 1 + 1 := by omega
  have mlt5 : m < w.heap.size + 1 + 1 + 1 + 1 + 1 := by omega
  have mlt6 : m < w.heap.size + 1 + 1 + 1 + 1 + 1 + 1 := by omega
  have mlt7 : m < w.heap.size + 1 + 1 + 1 + 1 + 1 + 1 + 1 := by omega
  have m0 := hM.c0
  have m1 := hM.c1
  have m2 := hM.c2
  have m3 := hM.c3
  have m4 := hM.c4
  have m5 := hM.c5
  have m6 := hM.c6
  have mz6 := hM.z6
  go_wp2_with fail
  refine (down_0 gp cp gs cs gl cl p m a fd mo _ (hW.below (by (repeat' (first | refine Below.setCell ?_ (by first | (simp; done) | (simp; omega) | omega | (simp [World.setCell]; omega)) _ | refine Below.alloc ?_ (by first | (simp; done) | (simp; omega) | omega | (simp [World.setCell]; omega)) _ | refine below_drewN' ?_ _ | refine Below.drew ?_ | exact Hid.out (by assumption) | exact Below.refl _ _)))) (hM.below (by (repeat' (first | refine Below.setCell ?_ (by first | (simp; done) | (simp; omega) | omega | (simp [World.setCell]; omega)) _ | refine Below.alloc ?_ (by first | (simp; done) | (simp; omega) | omega | (simp [World.setCell]; omega)) _ | refine below_drewN' ?_ _ | refine Below.drew ?_ | exact Hid.out (by assumption) | exact Below.refl _ _)))) (hC.below (by (repeat' (first | refine Below.setCell ?_ (by first | (simp; done) | (simp; omega) | omega | (simp [World.setCell]; omega)) _ | refine Below.alloc ?_ (by first | (simp; done) | (simp; omega) | omega | (simp [World.setCell]; omega)) _ | refine below_drewN' ?_ _ | refine Below.drew ?_ | exact Hid.out (by assumption) | exact Below.refl _ _))))).mono ?_; rintro e w1 ⟨rfl, g, c, W1, rfl, hb, hg, hF⟩
  have HB := bel_step (w := w) (by (repeat' (first | refine Below.setCell ?_ (by first | (simp; done) | (simp; omega) | omega | (simp [World.setCell]; omega)) _ | refine Below.alloc ?_ (by first | (simp; done) | (simp; omega) | omega | (simp [World.setCell]; omega)) _ | refine below_drewN' ?_ _ | refine Below.drew ?_ | exact Hid.out (by assumption) | exact Below.refl _ _))) hb
  simp at hg
  go_wp2_with fail
  try simp only [Exit.inBlock, Exit.then]
  exact bodyPost_ret (v := .tuple #[]) (by simp [results, Tryz.results260, go_sem]) rfl ⟨rfl, g, c, W1, rfl, HB.out, by omega, hF⟩
def MeetP (w : World) (a p : Nat) (e : Ending) (w' : World) : Prop := e = .returned (.tuple #[]) ∧ ∃ g c W1, w' = World.setCell W1 ⟨a, 5, none⟩ (.slice (some ⟨g, 0, none⟩) 1 c) ∧ Below w.heap.size w W1 ∧ w.heap.size ≤ g ∧ Cw p g W1
set_option maxRecDepth 100000 in
set_option maxHeartbeats 2000000 in
theorem meet_1 (p m a : Nat) (st : Value) (mo : Int) (hmo : 1 ≤ mo) (w : World) (hW : Wk m st (.slice none 0 0) mo a w) : Calls Tryz.prog 260 #[.pointer (some ⟨a, 0, none⟩), .int .i64 1, .agg #[.pointer (some ⟨p, 0, none⟩), .int .i64 1]] w fun e w' => MeetP w a p e w' := by
  obtain ⟨i0, hi0, hz0, hs0, hb0⟩ := info_parts info139
  have hmo2 : ¬ mo < 1 := by omega
  go_enter Tryz.func260, Tryz.ntmps260
  have alt := hW.lt
  have alt1 : a < w.heap.size + 1 := by omega
  have alt2 : a < w.heap.size + 1 + 1 := by omega
  have alt3 : a < w.heap.size + 1 + 1 + 1 := by omega
  have alt4 : a < w.heap.size + 1 + 1 + 1 + 1 := by omega
  have alt5 : a < w.heap.size + 1 + 1 + 1 + 1 + 1 := by omega
  have alt6 : a < w.heap.size + 1 + 1 + 1 + 1 + 1 + 1 := by omega
  have alt7 : a < w.heap.size + 1 + 1 + 1 + 1 + 1 + 1 + 1 := by omega
  have aw0 := hW.c0
  have aw1 := hW.c1
  have aw2 := hW.c2
  have aw3 := hW.c3
  have aw4 := hW.c4
  have aw5 := hW.c5
  have aw6 := hW.c6
  have aw7 := hW.c7
  have awz4 := hW.z4
  have awz5 := hW.z5
  have awz7 := hW.z7
  go_wp2_with fail
  go_region_law ((first | ((first | refine step_push rfl _ _ 194 rfl 139 i0 _ 2 16 Tryz.underlying194 hi0 hz0 hs0 hb0 rfl (by omega) (Acc.nil (Below.refl _ _) 139 2) rfl rfl (by first | rfl | simp) rfl rfl (by omega) (by omega) ?_ | refine step_push_d rfl _ _ 194 rfl 139 i0 _ 2 16 Tryz.underlying194 hi0 hz0 hs0 hb0 rfl (by omega) (Acc.nil (Below.refl _ _) 139 2) rfl rfl (by first | rfl | simp) rfl rfl (by omega) (by omega) ?_ | refine step_push_dd rfl _ _ 194 rfl 139 i0 _ 2 16 Tryz.underlying194 hi0 hz0 hs0 hb0 rfl (by omega) (Acc.nil (Below.refl _ _) 139 2) rfl rfl (by first | rfl | simp) rfl rfl (by omega) (by omega) ?_ | refine step_push_d3 rfl _ _ 194 rfl 139 i0 _ 2 16 Tryz.underlying194 hi0 hz0 hs0 hb0 rfl (by omega) (Acc.nil (Below.refl _ _) 139 2) rfl rfl (by first | rfl | simp) rfl rfl (by omega) (by omega) ?_); intro gn cn w3 hA; have xa := hA.bel.cell (p := ⟨a, 5, none⟩) (by first | (simp; done) | (simp; omega) | omega | (simp [World.setCell]; omega)); have xb := hA.bel.frozen (p := ⟨a, 5, none⟩) (by first | (simp; done) | (simp; omega) | omega | (simp [World.setCell]; omega)); simp [go_sem, *] at xa xb; have xc := hA.bel.cell (p := ⟨a, 6, none⟩) (by first | (simp; done) | (simp; omega) | omega | (simp [World.setCell]; omega)); (simp [go_sem, *] at xc); have HA := Lib.hid hA; have HB := bel_step (w := w) (by (repeat' (first | refine Below.setCell ?_ (by first | (simp; done) | (simp; omega) | omega | (simp [World.setCell]; omega)) _ | refine Below.alloc ?_ (by first | (simp; done) | (simp; omega) | omega | (simp [World.setCell]; omega)) _ | refine below_drewN' ?_ _ | refine Below.drew ?_ | exact Hid.out (by assumption) | exact Below.refl _ _))) hA.bel; clear hA)))
  all_goals have hr := HA.out.row
  all_goals have hr1 := hr.1
  all_goals simp at hr1
  all_goals have hg := hr.2.1
  all_goals have hCw : Hid (Cw p gn w3) := Lib.hid ⟨hr.2.1, hr.2.2 0 _ rfl, hr.2.2 1 _ rfl⟩
  all_goals clear hr HA
  all_goals go_wp2
  all_goals go_region
  all_goals go_wp2
  all_goals exact bodyPost_end (v := .tuple #[]) (by simp [results, Tryz.results260, go_sem]) rfl ⟨rfl, gn, cn, w3.drew, rfl, HB.out.drew, by omega, hCw.out.below (Below.refl _ _).drew⟩
def ChildP (w : World) (m a p : Nat) (e : Ending) (w' : World) : Prop := e = .returned (.tuple #[]) ∧ ∃ g c W1, w' = World.setCell W1 ⟨a, 5, none⟩ (.slice (some ⟨g, 0, none⟩) 1 c) ∧ Below w.heap.size (w.setCell ⟨m, 6, none⟩ (.int .i64 1)) W1 ∧ w.heap.size ≤ g ∧ Cw p g W1
set_option maxRecDepth 100000 in
set_option maxHeartbeats 2000000 in
theorem child_0 (gp cp gs cs gl cl p m a : Nat) (st : Value) (mo : Int) (hmo : 1 ≤ mo) (ham : a ≠ m) (w : World) (hW : Wk m st (.slice none 0 0) mo a w) (hM : Mc gp cp gs cs gl cl p 0 m w) (hC : Cd gp gs gl w) : Calls Tryz.prog 262 #[.pointer (some ⟨a, 0, none⟩), .int .i64 0, .int .i64 0, .agg #[.pointer (some ⟨p, 0, none⟩), .int .i64 1]] w fun e w' => ChildP w m a p e w' := by
  go_enter Tryz.func262, Tryz.ntmps262
  have alt := hW.lt
  have alt1 : a < w.heap.size + 1 := by omega
  have alt2 : a < w.heap.size + 1 + 1 := by omega
  have alt3 : a < w.heap.size + 1 + 1 + 1 := by omega
  have alt4 : a < w.heap.size + 1 + 1 + 1 + 1 := by omega
  have alt5 : a < w.heap.size + 1 + 1 + 1 + 1 + 1 := by omega
  have alt6 : a < w.heap.size + 1 + 1 + 1 + 1 + 1 + 1 := by omega
  have alt7 : a < w.heap.size + 1 + 1 + 1 + 1 + 1 + 1 + 1 := by omega
  have aw0 := hW.c0
  have aw1 := hW.c1
  have aw2 := hW.c2
  have aw3 := hW.c3
  have aw4 := hW.c4
  have aw5 := hW.c5
  have aw6 := hW.c6
  have aw7 := hW.c7
  have awz4 := hW.z4
  have awz5 := hW.z5
  have awz7 := hW.z7
  have mlt := hM.lt
  have mlt1 : m < w.heap.size + 1 := by omega
  have mlt2 : m < w.heap.size + 1 + 1 := by omega
  have mlt3 : m < w.heap.size + 1 + 1 + 1 := by omega
  have mlt4 : m < w.heap.size + 1 + 1 + 1 + 1 := by omega
  have mlt5 : m < w.heap.size + 1 + 1 + 1 + 1 + 1 := by omega
  have mlt6 : m < w.heap.size + 1 + 1 + 1 + 1 + 1 + 1 := by omega
  have mlt7 : m < w.heap.size + 1 + 1 + 1 + 1 + 1 + 1 + 1 := by omega
  have m0 := hM.c0
  have m1 := hM.c1
  have m2 := hM.c2
  have m3 := hM.c3
  have m4 := hM.c4
  have m5 := hM.c5
  have m6 := hM.c6
  have mz6 := hM.z6
  have gplt0 : gp < w.heap.size := by have := hC.p.lt; omega
  have gplt1 : gp < w.heap.size + 1 := by have := hC.p.lt; omega
  have gplt2 : gp < w.heap.size + 1 + 1 := by have := hC.p.lt; omega
  have gplt3 : gp < w.heap.size + 1 + 1 + 1 := by have := hC.p.lt; omega
  have gplt4 : gp < w.heap.size + 1 + 1 + 1 + 1 := by have := hC.p.lt; omega
  have gplt5 : gp < w.heap.size + 1 + 1 + 1 + 1 + 1 := by have := hC.p.lt; omega
  have gplt6 : gp < w.heap.size + 1 + 1 + 1 + 1 + 1 + 1 := by have := hC.p.lt; omega
  have gplt7 : gp < w.heap.size + 1 + 1 + 1 + 1 + 1 + 1 + 1 := by have := hC.p.lt; omega
  have gslt0 : gs < w.heap.size := by have := hC.s.lt; omega
  have gslt1 : gs < w.heap.size + 1 := by have := hC.s.lt; omega
  have gslt2 : gs < w.heap.size + 1 + 1 := by have := hC.s.lt; omega
  have gslt3 : gs < w.heap.size + 1 + 1 + 1 := by have := hC.s.lt; omega
  have gslt4 : gs < w.heap.size + 1 + 1 + 1 + 1 := by have := hC.s.lt; omega
  have gslt5 : gs < w.heap.size + 1 + 1 + 1 + 1 + 1 := by have := hC.s.lt; omega
  have gslt6 : gs < w.heap.size + 1 + 1 + 1 + 1 + 1 + 1 := by have := hC.s.lt; omega
  have gslt7 : gs < w.heap.size + 1 + 1 + 1 + 1 + 1 + 1 + 1 := by have := hC.s.lt; omega
  have gllt0 : gl < w.heap.size := by have := hC.l.lt; omega
  have gllt1 : gl < w.heap.size + 1 := by have := hC.l.lt; omega
  have gllt2 : gl < w.heap.size + 1 + 1 := by have := hC.l.lt; omega
  have gllt3 : gl < w.heap.size + 1 + 1 + 1 := by have := hC.l.lt; omega
  have gllt4 : gl < w.heap.size + 1 + 1 + 1 + 1 := by have := hC.l.lt; omega
  have gllt5 : gl < w.heap.size + 1 + 1 + 1 + 1 + 1 := by have := hC.l.lt; omega
  have gllt6 : gl < w.heap.size + 1 + 1 + 1 + 1 + 1 + 1 := by have := hC.l.lt; omega
  have gllt7 : gl < w.heap.size + 1 + 1 + 1 + 1 + 1 + 1 + 1 := by have := hC.l.lt; omega
  have dp0 := hC.p.c0
  have dp1 := hC.p.c1
  have dp2 := hC.p.c2
  have ds0 := hC.s.c0
  have ds1 := hC.s.c1
  have ds2 := hC.s.c2
  have dl0 := hC.l.c0
  have dl1 := hC.l.c1
  have dl2 := hC.l.c2
  have dl3 := hC.l.c3
  have dl4 := hC.l.c4
  have dl5 := hC.l.c5
  have dl6 := hC.l.c6
  have dl7 := hC.l.c7
  go_wp2_with (first | (go_at_call 264; refine (vstep_0 gp cp gs cs gl cl p m _ (hM.below (by (repeat' (first | refine Below.setCell ?_ (by first | (simp; done) | (simp; omega) | omega | (simp [World.setCell]; omega)) _ | refine Below.alloc ?_ (by first | (simp; done) | (simp; omega) | omega | (simp [World.setCell]; omega)) _ | refine below_drewN' ?_ _ | refine Below.drew ?_ | exact Hid.out (by assumption) | exact Below.refl _ _))))).mono ?_; rintro e w9 ⟨rfl, rfl⟩))
  refine (meet_1 p m a st mo hmo _ ((hW.set (a := ⟨m, 6, none⟩) (by show m ≠ a; omega) _).below ((Below.refl _ _).alloc (Nat.le_refl _) _))).mono ?_; rintro e w2 ⟨rfl, g, c, W1, rfl, hb, hg, hF⟩
  have HB : Hid (Below w.heap.size (w.setCell ⟨m, 6, none⟩ (.int .i64 1)) W1) := Lib.hid (((Below.refl w.heap.size (w.setCell ⟨m, 6, none⟩ (.int .i64 1))).alloc (by simp [World.setCell]) _).trans (hb.mono (by simp [World.setCell])))
  simp [World.setCell] at hg
  go_wp2_with fail
  exact bodyPost_end (v := .tuple #[]) (by simp [results, Tryz.results262, go_sem]) rfl ⟨rfl, g, c, W1, rfl, HB.out, by omega, hF⟩
end Go.Proofs.YtjelneeeijjpiaaGreatDoor
end
section
namespace Go.Proofs.YtjelneeeijjpiaaGreatDoor
open Go.RowKit
set_option maxRecDepth 100000 in
set_option maxHeartbeats 2000000 in
theorem after_0 (p n L : Nat) (T V : ByteArray) (hD : Doc T V n L) (w : World) (h : Ix w p T n) : Calls Tryz.prog 263 #[.agg #[.pointer (some ⟨p, 0, none⟩), .int .i64 (-1)], .agg #[.pointer (some ⟨p, 0, none⟩), .int .i64 (-1)]] w fun e w' => e = .returned (.tuple #[.agg #[.pointer (some ⟨p, 0, none⟩), .int .i64 1], .bool true]) ∧ Below w.heap.size w w' := by
  go_enter Tryz.func263, Tryz.ntmps263
  go_wp2_with fail
  refine (first_r p n L T V hD _ (h.below (by (repeat' (first | refine Below.setCell ?_ (by first | (simp; done) | (simp; omega) | omega | (simp [World.setCell]; omega)) _ | refine Below.alloc ?_ (by first | (simp; done) | (simp; omega) | omega | (simp [World.setCell]; omega)) _ | refine below_drewN' ?_ _ | refine Below.drew ?_ | exact Hid.out (by assumption) | exact Below.refl _ _))))).mono ?_; rintro e w1 ⟨rfl, hb1⟩
  have s1 := hb1.size; try simp at s1
  try (have l1_0_0_0 : w.heap.size < w1.heap.size := by omega)
  try (have l1_0_0_1 : w.heap.size < w1.heap.size + 1 := by omega)
  try (have l1_0_0_2 : w.heap.size < w1.heap.size + 1 + 1 := by omega)
  try (have l1_0_1_0 : w.heap.size + 1 < w1.heap.size := by omega)
  try (have l1_0_1_1 : w.heap.size + 1 < w1.heap.size + 1 := by omega)
  try (have l1_0_1_2 : w.heap.size + 1 < w1.heap.size + 1 + 1 := by omega)
  try (have l1_0_2_0 : w.heap.size + 2 < w1.heap.size := by omega)
  try (have l1_0_2_1 : w.heap.size + 2 < w1.heap.size + 1 := by omega)
  try (have l1_0_2_2 : w.heap.size + 2 < w1.heap.size + 1 + 1 := by omega)
  try (have e1_0_0_0 := hb1.cell (p := ⟨w.heap.size, 0, none⟩) (by first | (simp; done) | (simp; omega) | omega | (simp [World.setCell]; omega)); simp [go_sem, *] at e1_0_0_0)
  try (have f1_0_0_0 := hb1.frozen (p := ⟨w.heap.size, 0, none⟩) (by first | (simp; done) | (simp; omega) | omega | (simp [World.setCell]; omega)); simp [go_sem, *] at f1_0_0_0)
  try (have e1_0_0_1 := hb1.cell (p := ⟨w.heap.size, 1, none⟩) (by first | (simp; done) | (simp; omega) | omega | (simp [World.setCell]; omega)); simp [go_sem, *] at e1_0_0_1)
  try (have f1_0_0_1 := hb1.frozen (p := ⟨w.heap.size, 1, none⟩) (by first | (simp; done) | (simp; omega) | omega | (simp [World.setCell]; omega)); simp [go_sem, *] at f1_0_0_1)
  try (have e1_0_1_0 := hb1.cell (p := ⟨w.heap.size + 1, 0, none⟩) (by first | (simp; done) | (simp; omega) | omega | (simp [World.setCell]; omega)); simp [go_sem, *] at e1_0_1_0)
  try (have f1_0_1_0 := hb1.frozen (p := ⟨w.heap.size + 1, 0, none⟩) (by first | (simp; done) | (simp; omega) | omega | (simp [World.setCell]; omega)); simp [go_sem, *] at f1_0_1_0)
  try (have e1_0_1_1 := hb1.cell (p := ⟨w.heap.size + 1, 1, none⟩) (by first | (simp; done) | (simp; omega) | omega | (simp [World.setCell]; omega)); simp [go_sem, *] at e1_0_1_1)
  try (have f1_0_1_1 := hb1.frozen (p := ⟨w.heap.size + 1, 1, none⟩) (by first | (simp; done) | (simp; omega) | omega | (simp [World.setCell]; omega)); simp [go_sem, *] at f1_0_1_1)
  try (have e1_0_2_0 := hb1.cell (p := ⟨w.heap.size + 2, 0, none⟩) (by first | (simp; done) | (simp; omega) | omega | (simp [World.setCell]; omega)); simp [go_sem, *] at e1_0_2_0)
  try (have f1_0_2_0 := hb1.frozen (p := ⟨w.heap.size + 2, 0, none⟩) (by first | (simp; done) | (simp; omega) | omega | (simp [World.setCell]; omega)); simp [go_sem, *] at f1_0_2_0)
  try (have e1_0_2_1 := hb1.cell (p := ⟨w.heap.size + 2, 1, none⟩) (by first | (simp; done) | (simp; omega) | omega | (simp [World.setCell]; omega)); simp [go_sem, *] at e1_0_2_1)
  try (have f1_0_2_1 := hb1.frozen (p := ⟨w.heap.size + 2, 1, none⟩) (by first | (simp; done) | (simp; omega) | omega | (simp [World.setCell]; omega)); simp [go_sem, *] at f1_0_2_1)
  have HB1 := bel_step (w := w) (by (repeat' (first | refine Below.setCell ?_ (by first | (simp; done) | (simp; omega) | omega | (simp [World.setCell]; omega)) _ | refine Below.alloc ?_ (by first | (simp; done) | (simp; omega) | omega | (simp [World.setCell]; omega)) _ | refine below_drewN' ?_ _ | refine Below.drew ?_ | exact Hid.out (by assumption) | exact Below.refl _ _))) hb1
  clear hb1
  go_wp2_with fail
  try simp only [Exit.inBlock, Exit.then]
  refine bodyPost_ret (v := .tuple #[.agg #[.pointer (some ⟨p, 0, none⟩), .int .i64 1], .bool true]) (by simp [results, Tryz.results263, go_sem, *]) rfl ⟨rfl, by (repeat' (first | refine Below.setCell ?_ (by first | (simp; done) | (simp; omega) | omega | (simp [World.setCell]; omega)) _ | refine Below.alloc ?_ (by first | (simp; done) | (simp; omega) | omega | (simp [World.setCell]; omega)) _ | refine below_drewN' ?_ _ | refine Below.drew ?_ | exact Hid.out (by assumption) | exact Below.refl _ _))⟩
set_option maxRecDepth 100000 in
set_option maxHeartbeats 2000000 in
theorem none_0  (w : World) : Calls Tryz.prog 342 #[] w fun e w' => e = .returned (.tuple #[.agg #[.pointer none, .int .i64 0], .bool false]) ∧ Below w.heap.size w w' := by
  go_enter Tryz.func342, Tryz.ntmps342
  go_wp2_with fail
  try simp only [Exit.inBlock, Exit.then]
  refine bodyPost_ret (v := .tuple #[.agg #[.pointer none, .int .i64 0], .bool false]) (by simp [results, Tryz.results342, go_sem, *]) rfl ⟨rfl, by (repeat' (first | refine Below.setCell ?_ (by first | (simp; done) | (simp; omega) | omega | (simp [World.setCell]; omega)) _ | refine Below.alloc ?_ (by first | (simp; done) | (simp; omega) | omega | (simp [World.setCell]; omega)) _ | refine below_drewN' ?_ _ | refine Below.drew ?_ | exact Hid.out (by assumption) | exact Below.refl _ _))⟩
set_option maxRecDepth 100000 in
set_option maxHeartbeats 2000000 in
theorem listed_0 (g : Nat) (w : World) : Calls Tryz.prog 307 #[.slice (some ⟨g, 0, none⟩) 1 1] w fun e w' => e = .returned (.func (.func 341) #[] #[.pointer (some ⟨w.heap.size, 0, none⟩)]) ∧ w' = w.alloc (.cells #[.slice (some ⟨g, 0, none⟩) 1 1] 194) := by
  go_enter Tryz.func307, Tryz.ntmps307
  go_wp2_with fail
  go_ret
  exact ⟨rfl, rfl⟩
set_option maxRecDepth 100000 in
set_option maxHeartbeats 2000000 in
theorem lst_1 (p bx g : Nat) (w : World) (hx : bx < w.heap.size) (hc : w.cell? ⟨bx, 0, none⟩ = some (.slice (some ⟨g, 0, none⟩) 1 1)) (hf : w.frozen? ⟨bx, 0, none⟩ = false) (hg : Cw p g w) : Calls Tryz.prog 341 #[.pointer (some ⟨bx, 0, none⟩)] w fun e w' => e = .returned (.tuple #[.agg #[.pointer (some ⟨p, 0, none⟩), .int .i64 1], .bool true]) ∧ Below w.heap.size (w.setCell ⟨bx, 0, none⟩ (.slice (some ⟨g, 0, none⟩) 0 0)) w' := by
  have hg0 := hg.lt
  have g0 := hg.c0
  have g1 := hg.c1
  have hx1 : bx < w.heap.size + 1 := by omega
  have gx1 : g < w.heap.size + 1 := by omega
  have hx2 : bx < w.heap.size + 1 + 1 := by omega
  have gx2 : g < w.heap.size + 1 + 1 := by omega
  have hx3 : bx < w.heap.size + 1 + 1 + 1 := by omega
  have gx3 : g < w.heap.size + 1 + 1 + 1 := by omega
  go_enter Tryz.func341, Tryz.ntmps341
  go_wp2_with fail
  try simp only [Exit.inBlock, Exit.then]
  refine bodyPost_ret (v := .tuple #[.agg #[.pointer (some ⟨p, 0, none⟩), .int .i64 1], .bool true]) (by simp [results, Tryz.results341, go_sem, *]) rfl ⟨rfl, by (repeat' (first | refine Below.setCell ?_ (by first | (simp; done) | (simp; omega) | omega | (simp [World.setCell]; omega)) _ | refine Below.alloc ?_ (by first | (simp; done) | (simp; omega) | omega | (simp [World.setCell]; omega)) _ | refine below_drewN' ?_ _ | refine Below.drew ?_ | exact Hid.out (by assumption) | exact Below.refl _ _))⟩
set_option maxRecDepth 100000 in
set_option maxHeartbeats 2000000 in
theorem lst_2 (bx g : Nat) (w : World) (hx : bx < w.heap.size) (hc : w.cell? ⟨bx, 0, none⟩ = some (.slice (some ⟨g, 0, none⟩) 0 0)) : Calls Tryz.prog 341 #[.pointer (some ⟨bx, 0, none⟩)] w fun e w' => e = .returned (.tuple #[.agg #[.pointer none, .int .i64 0], .bool false]) ∧ Below w.heap.size w w' := by
  have hx1 : bx < w.heap.size + 1 := by omega
  have hx2 : bx < w.heap.size + 1 + 1 := by omega
  have hx3 : bx < w.heap.size + 1 + 1 + 1 := by omega
  go_enter Tryz.func341, Tryz.ntmps341
  go_wp2_with fail
  refine (none_0 _).mono ?_; rintro e w1 ⟨rfl, hb1⟩
  have s1 := hb1.size; try simp at s1
  try (have l1_0_0_0 : w.heap.size < w1.heap.size := by omega)
  try (have l1_0_0_1 : w.heap.size < w1.heap.size + 1 := by omega)
  try (have l1_0_0_2 : w.heap.size < w1.heap.size + 1 + 1 := by omega)
  try (have e1_0_0_0 := hb1.cell (p := ⟨w.heap.size, 0, none⟩) (by first | (simp; done) | (simp; omega) | omega | (simp [World.setCell]; omega)); simp [go_sem, *] at e1_0_0_0)
  try (have f1_0_0_0 := hb1.frozen (p := ⟨w.heap.size, 0, none⟩) (by first | (simp; done) | (simp; omega) | omega | (simp [World.setCell]; omega)); simp [go_sem, *] at f1_0_0_0)
  try (have e1_0_0_1 := hb1.cell (p := ⟨w.heap.size, 1, none⟩) (by first | (simp; done) | (simp; omega) | omega | (simp [World.setCell]; omega)); simp [go_sem, *] at e1_0_0_1)
  try (have f1_0_0_1 := hb1.frozen (p := ⟨w.heap.size, 1, none⟩) (by first | (simp; done) | (simp; omega) | omega | (simp [World.setCell]; omega)); simp [go_sem, *] at f1_0_0_1)
  have HB1 := bel_step (w := w) (by (repeat' (first | refine Below.setCell ?_ (by first | (simp; done) | (simp; omega) | omega | (simp [World.setCell]; omega)) _ | refine Below.alloc ?_ (by first | (simp; done) | (simp; omega) | omega | (simp [World.setCell]; omega)) _ | refine below_drewN' ?_ _ | refine Below.drew ?_ | exact Hid.out (by assumption) | exact Below.refl _ _))) hb1
  clear hb1
  go_wp2_with fail
  try simp only [Exit.inBlock, Exit.then]
  refine bodyPost_ret (v := .tuple #[.agg #[.pointer none, .int .i64 0], .bool false]) (by simp [results, Tryz.results341, go_sem, *]) rfl ⟨rfl, by (repeat' (first | refine Below.setCell ?_ (by first | (simp; done) | (simp; omega) | omega | (simp [World.setCell]; omega)) _ | refine Below.alloc ?_ (by first | (simp; done) | (simp; omega) | omega | (simp [World.setCell]; omega)) _ | refine below_drewN' ?_ _ | refine Below.drew ?_ | exact Hid.out (by assumption) | exact Below.refl _ _))⟩
def ToldP (w : World) (p : Nat) (e : Ending) (w' : World) : Prop := ∃ W : World, e = .returned (.func (.func 341) #[] #[.pointer (some ⟨W.heap.size + 1, 0, none⟩)]) ∧ w' = (W.alloc (.cells #[.pointer (some ⟨p, 0, none⟩), .int .i64 1] 139)).alloc (.cells #[.slice (some ⟨W.heap.size, 0, none⟩) 1 1] 194) ∧ Below w.heap.size w W
set_option maxRecDepth 100000 in
set_option maxHeartbeats 2000000 in
theorem index_0 (p n L : Nat) (T V : ByteArray) (hD : Doc T V n L) (w : World) (h : Ix w p T n) : Calls Tryz.prog 309 #[.agg #[.pointer (some ⟨p, 0, none⟩), .int .i64 (-1)], .int .i64 0] w fun e w' => ToldP w p e w' := by
  have hn := hD.n3
  have hn1 := hD.n1
  have hL := hD.hL
  have hs := hD.hn
  have hv := hD.vs
  go_enter Tryz.func309, Tryz.ntmps309
  go_wp2_with fail
  refine (cchild_r p n L T V hD _ (h.below (by (repeat' (first | refine Below.setCell ?_ (by first | (simp; done) | (simp; omega) | omega | (simp [World.setCell]; omega)) _ | refine Below.alloc ?_ (by first | (simp; done) | (simp; omega) | omega | (simp [World.setCell]; omega)) _ | refine below_drewN' ?_ _ | refine Below.drew ?_ | exact Hid.out (by assumption) | exact Below.refl _ _))))).mono ?_; rintro e w1 ⟨rfl, hb1⟩
  have s1 := hb1.size; try simp at s1
  try (have l1_0_0_0 : w.heap.size < w1.heap.size := by omega)
  try (have l1_0_0_1 : w.heap.size < w1.heap.size + 1 := by omega)
  try (have l1_0_0_2 : w.heap.size < w1.heap.size + 1 + 1 := by omega)
  try (have e1_0_0_0 := hb1.cell (p := ⟨w.heap.size, 0, none⟩) (by first | (simp; done) | (simp; omega) | omega | (simp [World.setCell]; omega)); simp [go_sem, *] at e1_0_0_0)
  try (have f1_0_0_0 := hb1.frozen (p := ⟨w.heap.size, 0, none⟩) (by first | (simp; done) | (simp; omega) | omega | (simp [World.setCell]; omega)); simp [go_sem, *] at f1_0_0_0)
  try (have e1_0_0_1 := hb1.cell (p := ⟨w.heap.size, 1, none⟩) (by first | (simp; done) | (simp; omega) | omega | (simp [World.setCell]; omega)); simp [go_sem, *] at e1_0_0_1)
  try (have f1_0_0_1 := hb1.frozen (p := ⟨w.heap.size, 1, none⟩) (by first | (simp; done) | (simp; omega) | omega | (simp [World.setCell]; omega)); simp [go_sem, *] at f1_0_0_1)
  have HB1 := bel_step (w := w) (by (repeat' (first | refine Below.setCell ?_ (by first | (simp; done) | (simp; omega) | omega | (simp [World.setCell]; omega)) _ | refine Below.alloc ?_ (by first | (simp; done) | (simp; omega) | omega | (simp [World.setCell]; omega)) _ | refine below_drewN' ?_ _ | refine Below.drew ?_ | exact Hid.out (by assumption) | exact Below.refl _ _))) hb1
  clear hb1
  go_wp2_with fail
  refine (kind_r p n L T V hD _ (h.below (by (repeat' (first | refine Below.setCell ?_ (by first | (simp; done) | (simp; omega) | omega | (simp [World.setCell]; omega)) _ | refine Below.alloc ?_ (by first | (simp; done) | (simp; omega) | omega | (simp [World.setCell]; omega)) _ | refine below_drewN' ?_ _ | refine Below.drew ?_ | exact Hid.out (by assumption) | exact Below.refl _ _))))).mono ?_; rintro e w2 ⟨rfl, hb2⟩
  have s2 := hb2.size; try simp at s2
  try (have l2_0_0_0 : w.heap.size < w2.heap.size := by omega)
  try (have l2_0_0_1 : w.heap.size < w2.heap.size + 1 := by omega)
  try (have l2_0_0_2 : w.heap.size < w2.heap.size + 1 + 1 := by omega)
  try (have l2_1_0_0 : w1.heap.size < w2.heap.size := by omega)
  try (have l2_1_0_1 : w1.heap.size < w2.heap.size + 1 := by omega)
  try (have l2_1_0_2 : w1.heap.size < w2.heap.size + 1 + 1 := by omega)
  try (have e2_0_0_0 := hb2.cell (p := ⟨w.heap.size, 0, none⟩) (by first | (simp; done) | (simp; omega) | omega | (simp [World.setCell]; omega)); simp [go_sem, *] at e2_0_0_0)
  try (have f2_0_0_0 := hb2.frozen (p := ⟨w.heap.size, 0, none⟩) (by first | (simp; done) | (simp; omega) | omega | (simp [World.setCell]; omega)); simp [go_sem, *] at f2_0_0_0)
  try (have e2_0_0_1 := hb2.cell (p := ⟨w.heap.size, 1, none⟩) (by first | (simp; done) | (simp; omega) | omega | (simp [World.setCell]; omega)); simp [go_sem, *] at e2_0_0_1)
  try (have f2_0_0_1 := hb2.frozen (p := ⟨w.heap.size, 1, none⟩) (by first | (simp; done) | (simp; omega) | omega | (simp [World.setCell]; omega)); simp [go_sem, *] at f2_0_0_1)
  try (have e2_1_0_0 := hb2.cell (p := ⟨w1.heap.size, 0, none⟩) (by first | (simp; done) | (simp; omega) | omega | (simp [World.setCell]; omega)); simp [go_sem, *] at e2_1_0_0)
  try (have f2_1_0_0 := hb2.frozen (p := ⟨w1.heap.size, 0, none⟩) (by first | (simp; done) | (simp; omega) | omega | (simp [World.setCell]; omega)); simp [go_sem, *] at f2_1_0_0)
  try (have e2_1_0_1 := hb2.cell (p := ⟨w1.heap.size, 1, none⟩) (by first | (simp; done) | (simp; omega) | omega | (simp [World.setCell]; omega)); simp [go_sem, *] at e2_1_0_1)
  try (have f2_1_0_1 := hb2.frozen (p := ⟨w1.heap.size, 1, none⟩) (by first | (simp; done) | (simp; omega) | omega | (simp [World.setCell]; omega)); simp [go_sem, *] at f2_1_0_1)
  have HB2 := bel_step (w := w) (by (repeat' (first | refine Below.setCell ?_ (by first | (simp; done) | (simp; omega) | omega | (simp [World.setCell]; omega)) _ | refine Below.alloc ?_ (by first | (simp; done) | (simp; omega) | omega | (simp [World.setCell]; omega)) _ | refine below_drewN' ?_ _ | refine Below.drew ?_ | exact Hid.out (by assumption) | exact Below.refl _ _))) hb2
  clear hb2
  go_wp2_with (first | (go_at_call 307; refine (listed_0 _ _).mono ?_; rintro e w9 ⟨rfl, rfl⟩))
  try simp only [Exit.inBlock, Exit.then]
  refine bodyPost_ret (v := .func (.func 341) #[] #[.pointer (some ⟨w2.heap.size + 1, 0, none⟩)]) (by simp [results, Tryz.results309, go_sem, *]) rfl ⟨w2, rfl, rfl, by (repeat' (first | refine Below.setCell ?_ (by first | (simp; done) | (simp; omega) | omega | (simp [World.setCell]; omega)) _ | refine Below.alloc ?_ (by first | (simp; done) | (simp; omega) | omega | (simp [World.setCell]; omega)) _ | refine below_drewN' ?_ _ | refine Below.drew ?_ | exact Hid.out (by assumption) | exact Below.refl _ _))⟩
set_option maxRecDepth 100000 in
set_option maxHeartbeats 2000000 in
theorem told_0 (p n L : Nat) (T V : ByteArray) (hD : Doc T V n L) (a : Nat) (w : World) (h : Ix w p T n) : Calls Tryz.prog 261 #[.pointer (some ⟨a, 0, none⟩), .agg #[.int .i64 2, .string ⟨#[]⟩, .int .i64 0, .int .i64 0, .int .i64 0, .bool false, .bool false, .int .i64 0], .agg #[.pointer (some ⟨p, 0, none⟩), .int .i64 (-1)]] w fun e w' => ToldP w p e w' := by
  go_enter Tryz.func261, Tryz.ntmps261
  go_wp2_with fail
  refine (index_0 p n L T V hD _ (h.below (by (repeat' (first | refine Below.setCell ?_ (by first | (simp; done) | (simp; omega) | omega | (simp [World.setCell]; omega)) _ | refine Below.alloc ?_ (by first | (simp; done) | (simp; omega) | omega | (simp [World.setCell]; omega)) _ | refine below_drewN' ?_ _ | refine Below.drew ?_ | exact Hid.out (by assumption) | exact Below.refl _ _))))).mono ?_; rintro e w1 ⟨W, rfl, rfl, hb⟩
  have HB := bel_step (w := w) (by (repeat' (first | refine Below.setCell ?_ (by first | (simp; done) | (simp; omega) | omega | (simp [World.setCell]; omega)) _ | refine Below.alloc ?_ (by first | (simp; done) | (simp; omega) | omega | (simp [World.setCell]; omega)) _ | refine below_drewN' ?_ _ | refine Below.drew ?_ | exact Hid.out (by assumption) | exact Below.refl _ _))) hb
  go_wp2_with fail
  exact bodyPost_ret (v := .func (.func 341) #[] #[.pointer (some ⟨W.heap.size + 1, 0, none⟩)]) (by simp [results, Tryz.results261, go_sem]) rfl ⟨W, rfl, rfl, HB.out⟩
end Go.Proofs.YtjelneeeijjpiaaGreatDoor
end
section
namespace Go.Proofs.YtjelneeeijjpiaaGreatDoor
open Go.RowKit
structure RS (w0 : World) (a m p gp cp gs cs gl cl g : Nat) (mo : Int) (st fd : Value) (sl : Int) (nx : Value) (k : Int) (W : World) : Prop where
  hW : Wk m st fd mo a W
  hM : Mc gp cp gs cs gl cl p k m W
  hC : Cd gp gs gl W
  hF : Fr p sl nx g W
  hb : Below w0.heap.size w0 W
  Ba : w0.heap.size ≤ a
  Bm : w0.heap.size ≤ m
  Bg : w0.heap.size ≤ g
  am : a ≠ m
  ag : a ≠ g
  mg : m ≠ g
  agp : gp ≠ a
  mgp : gp ≠ m
  ggp : gp ≠ g
  ags : gs ≠ a
  mgs : gs ≠ m
  ggs : gs ≠ g
  agl : gl ≠ a
  mgl : gl ≠ m
  ggl : gl ≠ g
theorem RS.below {w0 W : World} {a m p gp cp gs cs gl cl g : Nat} {mo : Int} {st fd : Value} {sl : Int} {nx : Value} {k : Int} {W' : World} (h : RS w0 a m p gp cp gs cs gl cl g mo st fd sl nx k W) (hb : Below W.heap.size W W') : RS w0 a m p gp cp gs cs gl cl g mo st fd sl nx k W' := ⟨h.hW.below hb, h.hM.below hb, h.hC.below hb, h.hF.below hb, h.hb.trans (hb.mono h.hb.size), h.Ba, h.Bm, h.Bg, h.am, h.ag, h.mg, h.agp, h.mgp, h.ggp, h.ags, h.mgs, h.ggs, h.agl, h.mgl, h.ggl⟩
theorem RS.other {w0 W : World} {a m p gp cp gs cs gl cl g : Nat} {mo : Int} {st fd : Value} {sl : Int} {nx : Value} {k : Int} (h : RS w0 a m p gp cp gs cs gl cl g mo st fd sl nx k W) {q : Addr} (hq : w0.heap.size ≤ q.block) (h1 : q.block ≠ a) (h2 : q.block ≠ m) (h3 : q.block ≠ g) (h4 : q.block ≠ gp) (h5 : q.block ≠ gs) (h6 : q.block ≠ gl) (v : Value) : RS w0 a m p gp cp gs cs gl cl g mo st fd sl nx k (W.setCell q v) := ⟨h.hW.set h1 v, h.hM.set h2 v, h.hC.set h4 h5 h6 v, h.hF.set h3 v, h.hb.setCell hq v, h.Ba, h.Bm, h.Bg, h.am, h.ag, h.mg, h.agp, h.mgp, h.ggp, h.ags, h.mgs, h.ggs, h.agl, h.mgl, h.ggl⟩
theorem RS.setS {w0 W : World} {a m p gp cp gs cs gl cl g : Nat} {mo : Int} {st fd : Value} {sl : Int} {nx : Value} {k : Int} (h : RS w0 a m p gp cp gs cs gl cl g mo st fd sl nx k W) (st' : Value) : RS w0 a m p gp cp gs cs gl cl g mo st' fd sl nx k (W.setCell ⟨a, 4, none⟩ (st')) := ⟨h.hW.setS st', h.hM.set (a := ⟨a, 4, none⟩) h.am _, h.hC.set (a := ⟨a, 4, none⟩) (Ne.symm h.agp) (Ne.symm h.ags) (Ne.symm h.agl) _, h.hF.set (a := ⟨a, 4, none⟩) h.ag _, h.hb.setCell (p := ⟨a, 4, none⟩) h.Ba _, h.Ba, h.Bm, h.Bg, h.am, h.ag, h.mg, h.agp, h.mgp, h.ggp, h.ags, h.mgs, h.ggs, h.agl, h.mgl, h.ggl⟩
theorem RS.setF {w0 W : World} {a m p gp cp gs cs gl cl g : Nat} {mo : Int} {st fd : Value} {sl : Int} {nx : Value} {k : Int} (h : RS w0 a m p gp cp gs cs gl cl g mo st fd sl nx k W) (fd' : Value) : RS w0 a m p gp cp gs cs gl cl g mo st fd' sl nx k (W.setCell ⟨a, 5, none⟩ (fd')) := ⟨h.hW.setF fd', h.hM.set (a := ⟨a, 5, none⟩) h.am _, h.hC.set (a := ⟨a, 5, none⟩) (Ne.symm h.agp) (Ne.symm h.ags) (Ne.symm h.agl) _, h.hF.set (a := ⟨a, 5, none⟩) h.ag _, h.hb.setCell (p := ⟨a, 5, none⟩) h.Ba _, h.Ba, h.Bm, h.Bg, h.am, h.ag, h.mg, h.agp, h.mgp, h.ggp, h.ags, h.mgs, h.ggs, h.agl, h.mgl, h.ggl⟩
theorem RS.setK {w0 W : World} {a m p gp cp gs cs gl cl g : Nat} {mo : Int} {st fd : Value} {sl : Int} {nx : Value} {k : Int} (h : RS w0 a m p gp cp gs cs gl cl g mo st fd sl nx k W) (k' : Int) : RS w0 a m p gp cp gs cs gl cl g mo st fd sl nx k' (W.setCell ⟨m, 6, none⟩ (.int .i64 k')) := ⟨h.hW.set (a := ⟨m, 6, none⟩) (Ne.symm h.am) _, h.hM.setK k', h.hC.set (a := ⟨m, 6, none⟩) (Ne.symm h.mgp) (Ne.symm h.mgs) (Ne.symm h.mgl) _, h.hF.set (a := ⟨m, 6, none⟩) h.mg _, h.hb.setCell (p := ⟨m, 6, none⟩) h.Bm _, h.Ba, h.Bm, h.Bg, h.am, h.ag, h.mg, h.agp, h.mgp, h.ggp, h.ags, h.mgs, h.ggs, h.agl, h.mgl, h.ggl⟩
theorem RS.setL {w0 W : World} {a m p gp cp gs cs gl cl g : Nat} {mo : Int} {st fd : Value} {sl : Int} {nx : Value} {k : Int} (h : RS w0 a m p gp cp gs cs gl cl g mo st fd sl nx k W) (sl' : Int) : RS w0 a m p gp cp gs cs gl cl g mo st fd sl' nx k (W.setCell ⟨g, 1, none⟩ (.int .i64 sl')) := ⟨h.hW.set (a := ⟨g, 1, none⟩) (Ne.symm h.ag) _, h.hM.set (a := ⟨g, 1, none⟩) (Ne.symm h.mg) _, h.hC.set (a := ⟨g, 1, none⟩) (Ne.symm h.ggp) (Ne.symm h.ggs) (Ne.symm h.ggl) _, h.hF.setL sl', h.hb.setCell (p := ⟨g, 1, none⟩) h.Bg _, h.Ba, h.Bm, h.Bg, h.am, h.ag, h.mg, h.agp, h.mgp, h.ggp, h.ags, h.mgs, h.ggs, h.agl, h.mgl, h.ggl⟩
theorem RS.setN {w0 W : World} {a m p gp cp gs cs gl cl g : Nat} {mo : Int} {st fd : Value} {sl : Int} {nx : Value} {k : Int} (h : RS w0 a m p gp cp gs cs gl cl g mo st fd sl nx k W) (nx' : Value) : RS w0 a m p gp cp gs cs gl cl g mo st fd sl nx' k (W.setCell ⟨g, 6, none⟩ (nx')) := ⟨h.hW.set (a := ⟨g, 6, none⟩) (Ne.symm h.ag) _, h.hM.set (a := ⟨g, 6, none⟩) (Ne.symm h.mg) _, h.hC.set (a := ⟨g, 6, none⟩) (Ne.symm h.ggp) (Ne.symm h.ggs) (Ne.symm h.ggl) _, h.hF.setN nx', h.hb.setCell (p := ⟨g, 6, none⟩) h.Bg _, h.Ba, h.Bm, h.Bg, h.am, h.ag, h.mg, h.agp, h.mgp, h.ggp, h.ags, h.mgs, h.ggs, h.agl, h.mgl, h.ggl⟩
end Go.Proofs.YtjelneeeijjpiaaGreatDoor
end
