/- TopText: walks and plain laws, part 22: lemmas on what the functions that the law comes to compute. -/
import Derived.Test.YtjelneeeijjpiaaGreatDoorG21
set_option linter.unusedVariables false
set_option linter.unusedSimpArgs false
section
namespace Go.Proofs.YtjelneeeijjpiaaGreatDoor
open Go.RowKit
structure Wr (b : Nat) (l : List UInt8) (w : World) : Prop where
  sb : Tw.SB b b l w
  lt : b < w.heap.size
def Kp (b : Nat) (w w' : World) : Prop := Tw.Keeps b b w w'
theorem Wr.drew {b : Nat} {l : List UInt8} {w : World} (h : Wr b l w) : Wr b l w.drew := ⟨h.sb, h.lt⟩
theorem Wr.put {b : Nat} {l : List UInt8} {w w' : World} {B : Nat} (h : Tw.SB b b l w') (hk : Tw.Keeps b b w w') (hl : b < w.heap.size) (hs : w.heap.size ≤ w'.heap.size) : Wr b l w' := ⟨h, Nat.lt_of_lt_of_le hl hs⟩
theorem Kp.drew {b : Nat} {w w' : World} (h : Tw.Keeps b b w.drew w') : Tw.Keeps b b w w' := ⟨⟨h.1.os, h.1.tape, h.1.output, h.1.size, h.1.block⟩, h.2⟩
theorem Kp.box {b k : Nat} {w w' : World} {C : Array Value} {t : TypeId} (h : Tw.Keeps b b w w') (hw : w.heap[k]? = some (.cells C t (0, 0))) (hk : k ≠ b) (ht : t ≠ 5) : w'.heap[k]? = some (.cells C t (0, 0)) := h.2 k _ hw (by simpa using hk) (by intro C' fz e; simp at e; exact ht e.2.1)
theorem box_cell {w : World} {k c : Nat} {C : Array Value} {t : TypeId} (hw : w.heap[k]? = some (.cells C t (0, 0))) : w.cell? ⟨k, c, none⟩ = C[c]? ∧ w.frozen? ⟨k, c, none⟩ = false := by
  constructor <;> simp [World.cell?, World.frozen?, hw]
theorem Kp.alloc {b : Nat} {w w' : World} {o : Obj} (h : Tw.Keeps b b (w.alloc o) w') (hb : b ≤ w.heap.size) : Tw.Keeps b b w w' :=
  ⟨((Below.refl _ w).alloc hb _).trans h.1, (Lib.OthersKept.alloc (Lib.OthersKept.refl _ _ _) o).trans h.2⟩
theorem SBalloc {B b : Nat} {l : List UInt8} {w : World} (h : Tw.SB B b l w) (hb : b < w.heap.size) (o : Obj) : Tw.SB B b l (w.alloc o) := by
  have hw : ∀ k, k < w.heap.size → (w.alloc o).heap[k]? = w.heap[k]? := fun k hk => ((Below.refl w.heap.size w).alloc (Nat.le_refl _) o).block k hk
  have key : ∀ p, Lib.BuilderAtF 332 5 B b p (Lib.byteCells l) w → Lib.BuilderAtF 332 5 B b p (Lib.byteCells l) (w.alloc o) := by
    rintro p ⟨hB, v, hbk, ⟨hl, hown⟩, hne⟩
    refine ⟨hB, v, (hw b hb).trans hbk, ⟨hl, ?_⟩, hne⟩
    rcases hown with hn | ⟨g, cap, cur, fz, hv, hbg, hg, r⟩
    · exact .inl hn
    · exact .inr ⟨g, cap, cur, fz, hv, hbg, (hw g (Array.getElem?_eq_some_iff.1 hg).1).trans hg, r⟩
  exact h.elim (fun h => .inl (key _ h)) (fun h => .inr (key _ h))
theorem box_alloc {w : World} {k : Nat} {C : Array Value} {t : TypeId} (h : w.heap[k]? = some (.cells C t (0, 0))) (o : Obj) : (w.alloc o).heap[k]? = some (.cells C t (0, 0)) :=
  (((Below.refl w.heap.size w).alloc (Nat.le_refl _) o).block k (Array.getElem?_eq_some_iff.1 h).1).trans h
theorem fmt_0 (w : World) : Calls Tryz.prog 352 #[.int .i64 0, .int .i64 10] w fun e w' => e = .returned (.string ⟨#[48]⟩) ∧ w = w' := by
  have := Tryz.strconv_FormatInt_10_small 0 (by decide) w
  rw [show (Lib.decDigits 0).toArray = #[48] by (first | decide +kernel | (simp [Lib.decDigits]; done) | (rw [Lib.decDigits]; rfl))] at this
  exact this.mono fun e w' ⟨h1, h2⟩ => ⟨h1, h2.symm⟩
theorem wstr (b : Nat) (l : List UInt8) (s : ByteArray) (hl : l.length < 100) (hs : s.size < 100) (w : World) (h : Tw.SB b b l w) (hb : b ≤ w.heap.size) : Calls Tryz.prog 67 #[.pointer (some ⟨b, 0, none⟩), .string s] w fun e w' => e = .returned (.tuple #[.int .i64 s.size, .nilIface]) ∧ Tw.SB b b (l ++ s.data.toList) w' ∧ Tw.Keeps b b w w' :=
  Tw.sb_writeString b b l s w h (by omega) (by omega) hb
set_option maxRecDepth 100000 in
set_option maxHeartbeats 2000000 in
theorem wint_0 (b : Nat) (l : List UInt8) (hl : l.length < 100) (w : World) (h : Tw.SB b b l w) (hb : b ≤ w.heap.size) : Calls Tryz.prog 320 #[.pointer (some ⟨b, 0, none⟩), .int .i64 0] w fun e w' => e = .returned (.tuple #[]) ∧ Tw.SB b b (l ++ [48]) w' ∧ Tw.Keeps b b w w' := by
  go_enter Tryz.func320, Tryz.ntmps320
  go_wp2_with fail
  go_region_law ((first | (go_simp; go_at_call 352; refine (fmt_0 _).mono ?_; rintro e w1 ⟨rfl, rfl⟩) | (go_simp; go_at_call 67; refine (wstr b l ⟨#[48]⟩ hl (by decide) _ (by exact h) (by exact hb)).mono ?_; rintro e w1 ⟨rfl, h1, h2⟩)))
  all_goals
    go_wp2_with fail
    refine bodyPost_end (v := .tuple #[]) (by simp [results, Tryz.results320, go_sem]) rfl ⟨rfl, h1, Kp.drew h2⟩
set_option maxRecDepth 100000 in
set_option maxHeartbeats 2000000 in
theorem wsel_0 (b : Nat) (l : List UInt8) (hl : l.length < 100) (w : World) (h : Tw.SB b b l w) (hb : b < w.heap.size) : Calls Tryz.prog 274 #[.pointer (some ⟨b, 0, none⟩), .agg #[.int .i64 2, .string ⟨#[]⟩, .int .i64 0, .int .i64 0, .int .i64 0, .int .i64 0, .bool false, .bool false, .pointer none]] w fun e w' => e = .returned (.tuple #[]) ∧ Tw.SB b b (l ++ [48]) w' ∧ Tw.Keeps b b w w' := by
  go_enter Tryz.func274, Tryz.ntmps274
  have hbl : b ≤ w.heap.size + 1 := by omega
  go_wp2_with fail
  have h0 : Tw.SB b b l (w.alloc (.cells #[.int .i64 2, .string ⟨#[]⟩, .int .i64 0, .int .i64 0, .int .i64 0, .int .i64 0, .bool false, .bool false, .pointer none] 267)) := SBalloc h hb _
  refine (wint_0 b l hl _ h0 (by simp; omega)).mono ?_; rintro e w1 ⟨rfl, h1, k1⟩
  go_wp2_with fail
  refine bodyPost_end (v := .tuple #[]) (by simp [results, Tryz.results274, go_sem]) rfl ⟨rfl, h1, Kp.alloc k1 (by omega)⟩
set_option maxRecDepth 100000 in
set_option maxHeartbeats 2000000 in
theorem wpath_0 (b q c s : Nat) (w : World) (h : Tw.SB b b [] w) (hb : b < w.heap.size) (hP : Pa w q s) (hq : q < b) (hs : s < b) : Calls Tryz.prog 208 #[.pointer (some ⟨b, 0, none⟩), .agg #[.bool true, .slice (some ⟨q, 0, none⟩) 1 (c : Nat)]] w fun e w' => e = .returned (.tuple #[]) ∧ Tw.SB b b [36, 91, 48, 93] w' ∧ Below b w w' := by
  go_enter Tryz.func208, Tryz.ntmps208
  have H0 : (w.alloc (Obj.cells #[.bool true, .slice (some ⟨q, 0, none⟩) 1 c] 199)).heap[w.heap.size]? = some (Obj.cells #[.bool true, .slice (some ⟨q, 0, none⟩) 1 c] 199) := heap_alloc_new w _
  have h0 := SBalloc h hb (Obj.cells #[.bool true, .slice (some ⟨q, 0, none⟩) 1 c] 199)
  go_wp2_with fail
  refine (wstr b [] ⟨#[36]⟩ (by decide) (by decide) _ h0 (by simp; omega)).mono ?_; rintro e w1 ⟨rfl, h1, k1⟩
  have H1 := Kp.box k1 H0 (by omega) (by decide)
  have B1 : Below b w w1 := ((Below.refl _ w).alloc (by omega) _).trans k1.1
  have P1 : Pa w1 q s := ⟨Nat.lt_of_lt_of_le hP.lt B1.size, (B1.cell (p := ⟨q, 0, none⟩) hq).trans hP.c0, (B1.cell (p := ⟨q, 1, none⟩) hq).trans hP.c1, hP.sl.of B1.size fun c => B1.cell (p := ⟨s, c, none⟩) hs⟩
  have z1 := B1.size
  have e1 := (box_cell (c := 1) H1).1; simp at e1
  have q0 := P1.c0; have q1 := P1.c1; have ql : q < w1.heap.size := by omega
  have ql1 : q < w1.heap.size + 1 := by omega
  go_wp2_with (first | (refine wp_loop_unr 3 ?_; refine Unr.step ?_; intro U hU) | (refine Unr.step ?_; intro U hU))
  have H1b := heap_alloc_new w1 (Obj.cells #[.bool false, .slice (some ⟨s, 0, none⟩) 1 1] 264)
  have h1b := SBalloc h1 (by omega) (Obj.cells #[.bool false, .slice (some ⟨s, 0, none⟩) 1 1] 264)
  refine (wstr b _ ⟨#[91]⟩ (by decide) (by decide) _ h1b (by simp; omega)).mono ?_; rintro e w2 ⟨rfl, h2, k2⟩
  have H2 := Kp.box k2 H1b (by omega) (by decide)
  have B2 : Below b w w2 := (B1.alloc (by omega) _).trans k2.1
  have P2 : Sl w2 s := hP.sl.of B2.size fun c => B2.cell (p := ⟨s, c, none⟩) hs
  have z2 := k2.1.size; simp at z2
  have z2b : w1.heap.size + 1 ≤ w2.heap.size := (Array.getElem?_eq_some_iff.1 H2).1
  have e2 := (box_cell (c := 1) H2).1; simp at e2
  have l2 : w1.heap.size < w2.heap.size + 1 := by omega
  have sl : s < w2.heap.size := P2.lt
  have sl1 : s < w2.heap.size + 1 := by omega
  obtain ⟨-, p0, p1, p2, p3, p4, p5, p6, p7, p8⟩ := P2
  go_wp2_with (first | (refine wp_loop_unr 3 ?_; refine Unr.step ?_; intro U hU) | (refine Unr.step ?_; intro U hU))
  have H2b := box_alloc H2 (Obj.cells #[.int .i64 2, .string ⟨#[]⟩, .int .i64 0, .int .i64 0, .int .i64 0, .int .i64 0, .bool false, .bool false, .pointer none] 267)
  have h2b := SBalloc h2 (by omega) (Obj.cells #[.int .i64 2, .string ⟨#[]⟩, .int .i64 0, .int .i64 0, .int .i64 0, .int .i64 0, .bool false, .bool false, .pointer none] 267)
  refine (wsel_0 b _ (by decide) _ h2b (by simp; omega)).mono ?_; rintro e w3 ⟨rfl, h3, k3⟩
  have H3 := Kp.box k3 H2b (by omega) (by decide)
  have B3 : Below b w w3 := (B2.alloc (by omega) _).trans k3.1
  have z3 := k3.1.size; simp at z3
  have z3b := (Array.getElem?_eq_some_iff.1 H3).1
  go_wp2_with (first | (refine wp_loop_unr 3 ?_; refine Unr.step ?_; intro U hU) | (refine Unr.step ?_; intro U hU))
  refine (wstr b _ ⟨#[93]⟩ (by decide) (by decide) _ h3 (by omega)).mono ?_; rintro e w4 ⟨rfl, h4, k4⟩
  go_wp2_with (first | (refine wp_loop_unr 3 ?_; refine Unr.step ?_; intro U hU) | (refine Unr.step ?_; intro U hU))
  refine bodyPost_end (v := .tuple #[]) (by simp [results, Tryz.results208, go_sem]) rfl ⟨rfl, h4, B3.trans k4.1⟩
set_option maxRecDepth 100000 in
set_option maxHeartbeats 2000000 in
theorem show_0 (q c s : Nat) (w : World) (hP : Pa w q s) : Calls Tryz.prog 152 #[.agg #[.bool true, .slice (some ⟨q, 0, none⟩) 1 (c : Nat)]] w fun e w' => e = .returned (.string ⟨#[36, 91, 48, 93]⟩) ∧ Below w.heap.size w w' := by
  go_enter Tryz.func152, Tryz.ntmps152
  go_wp2_with fail
  have hb0 := Tw.sw_new (w.heap.size + 1) (w.alloc (Obj.cells #[.bool true, .slice (some ⟨q, 0, none⟩) 1 c] 199)) (by simp)
  simp only [World.size_alloc] at hb0
  have hl := hP.lt; have hl2 := hP.sl.lt
  refine (wpath_0 (w.heap.size + 1) q c s _ hb0 (by simp) (hP.below (((Below.refl _ _).alloc (Nat.le_refl _) _).alloc (by simp) _)) (by omega) (by omega)).mono ?_; rintro e w1 ⟨rfl, h1, b1⟩
  have B1 : Hid (Below w.heap.size w w1) := Lib.hid (((((Below.refl _ w).alloc (Nat.le_refl _) _).alloc (by simp) _)).trans (b1.mono (by omega)))
  go_wp2_with fail
  refine (Tw.sw_string _ _ _ _ h1 (by simp)).mono ?_; rintro e w2 ⟨rfl, b2⟩
  have B2 := B1.out.trans (b2.mono (by omega))
  go_wp2_with fail
  go_ret
  exact ⟨rfl, B2⟩
end Go.Proofs.YtjelneeeijjpiaaGreatDoor
end
section
namespace Go.Proofs.YtjelneeeijjpiaaGreatDoor
open Go.RowKit
set_option maxRecDepth 100000 in
set_option maxHeartbeats 2000000 in
theorem normal_0 (q c s : Nat) (w : World) (hP : Pa w q s) : Calls Tryz.prog 101 #[.agg #[.bool true, .slice (some ⟨q, 0, none⟩) 1 (c : Nat)], .string ⟨#[36, 91, 48, 93]⟩] w fun e w' => e = .returned (.bool true) ∧ Below w.heap.size w w' := by
  go_enter Tryz.func101, Tryz.ntmps101
  have ql := hP.lt
  have ql1 : q < w.heap.size + 1 := by omega
  have ql2 : q < w.heap.size + 1 + 1 := by omega
  have ql3 : q < w.heap.size + 1 + 1 + 1 := by omega
  have ql4 : q < w.heap.size + 1 + 1 + 1 + 1 := by omega
  have ql5 : q < w.heap.size + 1 + 1 + 1 + 1 + 1 := by omega
  have sl := hP.sl.lt
  have sl1 : s < w.heap.size + 1 := by omega
  have sl2 : s < w.heap.size + 1 + 1 := by omega
  have sl3 : s < w.heap.size + 1 + 1 + 1 := by omega
  have sl4 : s < w.heap.size + 1 + 1 + 1 + 1 := by omega
  have sl5 : s < w.heap.size + 1 + 1 + 1 + 1 + 1 := by omega
  have q0 := hP.c0; have q1 := hP.c1
  obtain ⟨-, p0, p1, p2, p3, p4, p5, p6, p7, p8⟩ := hP.sl
  go_wp2_with (first | (refine wp_loop_unr 3 ?_; refine Unr.step ?_; intro U hU) | (refine Unr.step ?_; intro U hU))
  go_wp2_with fail
  refine (show_0 q c s _ (hP.below (by (repeat' (first | exact Below.refl _ _ | exact Hid.out (by assumption) | refine Below.alloc ?_ (by first | (simp; done) | (simp; omega) | omega) _ | refine Below.setCell ?_ (by first | (simp; done) | (simp; omega) | omega) _ | refine below_drewN' ?_ _ | refine Below.drew ?_))))).mono ?_; rintro e w1 ⟨rfl, hb1⟩
  have s1 := hb1.size; try simp at s1
  have HB1 := bel_step (w := w) (by (repeat' (first | exact Below.refl _ _ | exact Hid.out (by assumption) | refine Below.alloc ?_ (by first | (simp; done) | (simp; omega) | omega) _ | refine Below.setCell ?_ (by first | (simp; done) | (simp; omega) | omega) _ | refine below_drewN' ?_ _ | refine Below.drew ?_))) hb1
  clear hb1
  go_wp2_with fail
  go_ret
  exact ⟨rfl, by (repeat' (first | exact Below.refl _ _ | exact Hid.out (by assumption) | refine Below.alloc ?_ (by first | (simp; done) | (simp; omega) | omega) _ | refine Below.setCell ?_ (by first | (simp; done) | (simp; omega) | omega) _ | refine below_drewN' ?_ _ | refine Below.drew ?_))⟩
set_option maxRecDepth 100000 in
set_option maxHeartbeats 2000000 in
theorem csel_0  (w : World) : Calls Tryz.prog 235 #[.agg #[.int .i64 2, .string ⟨#[]⟩, .int .i64 0, .int .i64 0, .int .i64 0, .int .i64 0, .bool false, .bool false, .pointer none]] w fun e w' => e = .returned (.agg #[.int .i64 2, .string ⟨#[]⟩, .int .i64 0, .int .i64 0, .int .i64 0, .bool false, .bool false, .int .i64 0]) ∧ Below w.heap.size w w' := by
  go_enter Tryz.func235, Tryz.ntmps235
  go_wp2_with fail
  try simp only [Exit.inBlock, Exit.then]
  refine bodyPost_ret (v := .agg #[.int .i64 2, .string ⟨#[]⟩, .int .i64 0, .int .i64 0, .int .i64 0, .bool false, .bool false, .int .i64 0]) (by simp [results, Tryz.results235, go_sem]) rfl ⟨rfl, by (repeat' (first | exact Below.refl _ _ | exact Hid.out (by assumption) | refine Below.alloc ?_ (by first | (simp; done) | (simp; omega) | omega) _ | refine Below.setCell ?_ (by first | (simp; done) | (simp; omega) | omega) _ | refine below_drewN' ?_ _ | refine Below.drew ?_))⟩
end Go.Proofs.YtjelneeeijjpiaaGreatDoor
end
section
namespace Go.Proofs.YtjelneeeijjpiaaGreatDoor
open Go.RowKit
theorem info317 : (Tryz.prog.info? 317).map (fun i => (i.zero, i.size, i.bytes)) = some (some (.agg #[.int .i64 0, .string ⟨#[]⟩, .int .i64 0, .int .i64 0, .int .i64 0, .bool false, .bool false, .int .i64 0]), 8, 64) := by kernel_rfl
theorem info314 : (Tryz.prog.info? 314).map (fun i => (i.zero, i.size, i.bytes)) = some (some (.agg #[.bool false, .int .i64 0, .int .i64 0]), 3, 24) := by kernel_rfl
theorem info311 : (Tryz.prog.info? 311).map (fun i => (i.zero, i.size, i.bytes)) = some (some (.agg #[.bool false, .int .i64 0, .int .i64 0]), 3, 24) := by kernel_rfl
theorem info265 : (Tryz.prog.info? 265).map (fun i => (i.zero, i.size, i.bytes)) = some (some (.pointer none), 1, 8) := by kernel_rfl
structure CP (w : World) (m wa : Nat) (v0 v1 v2 : Value) (gt xt : Int) (W : World) : Prop where
  gr : w.grownBy W (some m)
  ml : m < w.heap.size
  wl : w.heap.size + 5 ≤ W.heap.size
  m0 : W.cell? ⟨m, 0, none⟩ = some v0
  m1 : W.cell? ⟨m, 1, none⟩ = some v1
  m2 : W.cell? ⟨m, 2, none⟩ = some v2
  m3 : W.cell? ⟨m, 3, none⟩ = some (.slice none 0 0)
  m4 : W.cell? ⟨m, 4, none⟩ = some (.slice (some ⟨wa, 0, none⟩) 1 1)
  n0 : W.frozen? ⟨m, 0, none⟩ = false
  n1 : W.frozen? ⟨m, 1, none⟩ = false
  n2 : W.frozen? ⟨m, 2, none⟩ = false
  x0 : W.cell? ⟨w.heap.size + 1, 0, none⟩ = some (.bool true)
  x1 : W.cell? ⟨w.heap.size + 1, 1, none⟩ = some (.int .i64 0)
  x2 : W.cell? ⟨w.heap.size + 1, 2, none⟩ = some (.int .i64 xt)
  xf : W.frozen? ⟨w.heap.size + 1, 2, none⟩ = false
  g0 : W.cell? ⟨w.heap.size + 3, 0, none⟩ = some (.bool false)
  g1 : W.cell? ⟨w.heap.size + 3, 1, none⟩ = some (.int .i64 0)
  g2 : W.cell? ⟨w.heap.size + 3, 2, none⟩ = some (.int .i64 gt)
  gf : W.frozen? ⟨w.heap.size + 3, 2, none⟩ = false
  y0 : W.cell? ⟨w.heap.size + 4, 0, none⟩ = some (.int .i64 2)
  y1 : W.cell? ⟨w.heap.size + 4, 1, none⟩ = some (.string ⟨#[]⟩)
  y2 : W.cell? ⟨w.heap.size + 4, 2, none⟩ = some (.int .i64 0)
  y3 : W.cell? ⟨w.heap.size + 4, 3, none⟩ = some (.int .i64 0)
  y4 : W.cell? ⟨w.heap.size + 4, 4, none⟩ = some (.int .i64 0)
  y5 : W.cell? ⟨w.heap.size + 4, 5, none⟩ = some (.int .i64 0)
  y6 : W.cell? ⟨w.heap.size + 4, 6, none⟩ = some (.bool false)
  y7 : W.cell? ⟨w.heap.size + 4, 7, none⟩ = some (.bool false)
  y8 : W.cell? ⟨w.heap.size + 4, 8, none⟩ = some (.pointer none)
theorem CP.below {W' : World} {w W : World} {m wa : Nat} {v0 v1 v2 : Value} {gt xt : Int} (h : CP w m wa v0 v1 v2 gt xt W) (hb : Below W.heap.size W W') : CP w m wa v0 v1 v2 gt xt W' := by
  have a := h.ml; have b := h.wl
  exact ⟨⟨hb.os.trans h.gr.os, hb.tape.trans h.gr.tape, hb.output.trans h.gr.output, Nat.le_trans h.gr.size hb.size, fun k hk hn => (hb.block k (Nat.lt_of_lt_of_le hk h.gr.size)).trans (h.gr.block k hk hn)⟩, h.ml, Nat.le_trans h.wl hb.size, (hb.cell (p := ⟨m, 0, none⟩) (by show m < _; omega)).trans h.m0, (hb.cell (p := ⟨m, 1, none⟩) (by show m < _; omega)).trans h.m1, (hb.cell (p := ⟨m, 2, none⟩) (by show m < _; omega)).trans h.m2, (hb.cell (p := ⟨m, 3, none⟩) (by show m < _; omega)).trans h.m3, (hb.cell (p := ⟨m, 4, none⟩) (by show m < _; omega)).trans h.m4, (hb.frozen (p := ⟨m, 0, none⟩) (by show m < _; omega)).trans h.n0, (hb.frozen (p := ⟨m, 1, none⟩) (by show m < _; omega)).trans h.n1, (hb.frozen (p := ⟨m, 2, none⟩) (by show m < _; omega)).trans h.n2, (hb.cell (p := ⟨w.heap.size + 1, 0, none⟩) (by show w.heap.size + 1 < _; omega)).trans h.x0, (hb.cell (p := ⟨w.heap.size + 1, 1, none⟩) (by show w.heap.size + 1 < _; omega)).trans h.x1, (hb.cell (p := ⟨w.heap.size + 1, 2, none⟩) (by show w.heap.size + 1 < _; omega)).trans h.x2, (hb.frozen (p := ⟨w.heap.size + 1, 2, none⟩) (by show w.heap.size + 1 < _; omega)).trans h.xf, (hb.cell (p := ⟨w.heap.size + 3, 0, none⟩) (by show w.heap.size + 3 < _; omega)).trans h.g0, (hb.cell (p := ⟨w.heap.size + 3, 1, none⟩) (by show w.heap.size + 3 < _; omega)).trans h.g1, (hb.cell (p := ⟨w.heap.size + 3, 2, none⟩) (by show w.heap.size + 3 < _; omega)).trans h.g2, (hb.frozen (p := ⟨w.heap.size + 3, 2, none⟩) (by show w.heap.size + 3 < _; omega)).trans h.gf, (hb.cell (p := ⟨w.heap.size + 4, 0, none⟩) (by show w.heap.size + 4 < _; omega)).trans h.y0, (hb.cell (p := ⟨w.heap.size + 4, 1, none⟩) (by show w.heap.size + 4 < _; omega)).trans h.y1, (hb.cell (p := ⟨w.heap.size + 4, 2, none⟩) (by show w.heap.size + 4 < _; omega)).trans h.y2, (hb.cell (p := ⟨w.heap.size + 4, 3, none⟩) (by show w.heap.size + 4 < _; omega)).trans h.y3, (hb.cell (p := ⟨w.heap.size + 4, 4, none⟩) (by show w.heap.size + 4 < _; omega)).trans h.y4, (hb.cell (p := ⟨w.heap.size + 4, 5, none⟩) (by show w.heap.size + 4 < _; omega)).trans h.y5, (hb.cell (p := ⟨w.heap.size + 4, 6, none⟩) (by show w.heap.size + 4 < _; omega)).trans h.y6, (hb.cell (p := ⟨w.heap.size + 4, 7, none⟩) (by show w.heap.size + 4 < _; omega)).trans h.y7, (hb.cell (p := ⟨w.heap.size + 4, 8, none⟩) (by show w.heap.size + 4 < _; omega)).trans h.y8⟩
theorem CP.setM2 {w W : World} {m wa : Nat} {v0 v1 v2 : Value} {gt xt : Int} (h : CP w m wa v0 v1 v2 gt xt W) (v : Value) : CP w m wa v0 v1 v gt xt (W.setCell ⟨m, 2, none⟩ v) := by
  have a := h.ml; have b := h.wl
  exact ⟨⟨h.gr.os, h.gr.tape, h.gr.output, by simpa [World.setCell] using h.gr.size, fun k hk hn => (Below.heap_setCell _ _ _ _ (by show k ≠ m; exact fun e => hn (by rw [e]))).trans (h.gr.block k hk hn)⟩, h.ml, by simpa [World.setCell] using h.wl, (World.cell?_setCell_other _ _ _ _ (by intro e; injection e with e1 e2 <;> omega)).trans h.m0, (World.cell?_setCell_other _ _ _ _ (by intro e; injection e with e1 e2 <;> omega)).trans h.m1, World.cell?_setCell_same' _ _ _ (by rw [h.m2]; rfl), (World.cell?_setCell_other _ _ _ _ (by intro e; injection e with e1 e2 <;> omega)).trans h.m3, (World.cell?_setCell_other _ _ _ _ (by intro e; injection e with e1 e2 <;> omega)).trans h.m4, (World.frozen?_setCell _ _ _ _).trans h.n0, (World.frozen?_setCell _ _ _ _).trans h.n1, (World.frozen?_setCell _ _ _ _).trans h.n2, (World.cell?_setCell_other _ _ _ _ (by intro e; injection e with e1 e2 <;> omega)).trans h.x0, (World.cell?_setCell_other _ _ _ _ (by intro e; injection e with e1 e2 <;> omega)).trans h.x1, (World.cell?_setCell_other _ _ _ _ (by intro e; injection e with e1 e2 <;> omega)).trans h.x2, (World.frozen?_setCell _ _ _ _).trans h.xf, (World.cell?_setCell_other _ _ _ _ (by intro e; injection e with e1 e2 <;> omega)).trans h.g0, (World.cell?_setCell_other _ _ _ _ (by intro e; injection e with e1 e2 <;> omega)).trans h.g1, (World.cell?_setCell_other _ _ _ _ (by intro e; injection e with e1 e2 <;> omega)).trans h.g2, (World.frozen?_setCell _ _ _ _).trans h.gf, (World.cell?_setCell_other _ _ _ _ (by intro e; injection e with e1 e2 <;> omega)).trans h.y0, (World.cell?_setCell_other _ _ _ _ (by intro e; injection e with e1 e2 <;> omega)).trans h.y1, (World.cell?_setCell_other _ _ _ _ (by intro e; injection e with e1 e2 <;> omega)).trans h.y2, (World.cell?_setCell_other _ _ _ _ (by intro e; injection e with e1 e2 <;> omega)).trans h.y3, (World.cell?_setCell_other _ _ _ _ (by intro e; injection e with e1 e2 <;> omega)).trans h.y4, (World.cell?_setCell_other _ _ _ _ (by intro e; injection e with e1 e2 <;> omega)).trans h.y5, (World.cell?_setCell_other _ _ _ _ (by intro e; injection e with e1 e2 <;> omega)).trans h.y6, (World.cell?_setCell_other _ _ _ _ (by intro e; injection e with e1 e2 <;> omega)).trans h.y7, (World.cell?_setCell_other _ _ _ _ (by intro e; injection e with e1 e2 <;> omega)).trans h.y8⟩
theorem CP.setM1 {w W : World} {m wa : Nat} {v0 v1 v2 : Value} {gt xt : Int} (h : CP w m wa v0 v1 v2 gt xt W) (v : Value) : CP w m wa v0 v v2 gt xt (W.setCell ⟨m, 1, none⟩ v) := by
  have a := h.ml; have b := h.wl
  exact ⟨⟨h.gr.os, h.gr.tape, h.gr.output, by simpa [World.setCell] using h.gr.size, fun k hk hn => (Below.heap_setCell _ _ _ _ (by show k ≠ m; exact fun e => hn (by rw [e]))).trans (h.gr.block k hk hn)⟩, h.ml, by simpa [World.setCell] using h.wl, (World.cell?_setCell_other _ _ _ _ (by intro e; injection e with e1 e2 <;> omega)).trans h.m0, World.cell?_setCell_same' _ _ _ (by rw [h.m1]; rfl), (World.cell?_setCell_other _ _ _ _ (by intro e; injection e with e1 e2 <;> omega)).trans h.m2, (World.cell?_setCell_other _ _ _ _ (by intro e; injection e with e1 e2 <;> omega)).trans h.m3, (World.cell?_setCell_other _ _ _ _ (by intro e; injection e with e1 e2 <;> omega)).trans h.m4, (World.frozen?_setCell _ _ _ _).trans h.n0, (World.frozen?_setCell _ _ _ _).trans h.n1, (World.frozen?_setCell _ _ _ _).trans h.n2, (World.cell?_setCell_other _ _ _ _ (by intro e; injection e with e1 e2 <;> omega)).trans h.x0, (World.cell?_setCell_other _ _ _ _ (by intro e; injection e with e1 e2 <;> omega)).trans h.x1, (World.cell?_setCell_other _ _ _ _ (by intro e; injection e with e1 e2 <;> omega)).trans h.x2, (World.frozen?_setCell _ _ _ _).trans h.xf, (World.cell?_setCell_other _ _ _ _ (by intro e; injection e with e1 e2 <;> omega)).trans h.g0, (World.cell?_setCell_other _ _ _ _ (by intro e; injection e with e1 e2 <;> omega)).trans h.g1, (World.cell?_setCell_other _ _ _ _ (by intro e; injection e with e1 e2 <;> omega)).trans h.g2, (World.frozen?_setCell _ _ _ _).trans h.gf, (World.cell?_setCell_other _ _ _ _ (by intro e; injection e with e1 e2 <;> omega)).trans h.y0, (World.cell?_setCell_other _ _ _ _ (by intro e; injection e with e1 e2 <;> omega)).trans h.y1, (World.cell?_setCell_other _ _ _ _ (by intro e; injection e with e1 e2 <;> omega)).trans h.y2, (World.cell?_setCell_other _ _ _ _ (by intro e; injection e with e1 e2 <;> omega)).trans h.y3, (World.cell?_setCell_other _ _ _ _ (by intro e; injection e with e1 e2 <;> omega)).trans h.y4, (World.cell?_setCell_other _ _ _ _ (by intro e; injection e with e1 e2 <;> omega)).trans h.y5, (World.cell?_setCell_other _ _ _ _ (by intro e; injection e with e1 e2 <;> omega)).trans h.y6, (World.cell?_setCell_other _ _ _ _ (by intro e; injection e with e1 e2 <;> omega)).trans h.y7, (World.cell?_setCell_other _ _ _ _ (by intro e; injection e with e1 e2 <;> omega)).trans h.y8⟩
theorem CP.setM0 {w W : World} {m wa : Nat} {v0 v1 v2 : Value} {gt xt : Int} (h : CP w m wa v0 v1 v2 gt xt W) (v : Value) : CP w m wa v v1 v2 gt xt (W.setCell ⟨m, 0, none⟩ v) := by
  have a := h.ml; have b := h.wl
  exact ⟨⟨h.gr.os, h.gr.tape, h.gr.output, by simpa [World.setCell] using h.gr.size, fun k hk hn => (Below.heap_setCell _ _ _ _ (by show k ≠ m; exact fun e => hn (by rw [e]))).trans (h.gr.block k hk hn)⟩, h.ml, by simpa [World.setCell] using h.wl, World.cell?_setCell_same' _ _ _ (by rw [h.m0]; rfl), (World.cell?_setCell_other _ _ _ _ (by intro e; injection e with e1 e2 <;> omega)).trans h.m1, (World.cell?_setCell_other _ _ _ _ (by intro e; injection e with e1 e2 <;> omega)).trans h.m2, (World.cell?_setCell_other _ _ _ _ (by intro e; injection e with e1 e2 <;> omega)).trans h.m3, (World.cell?_setCell_other _ _ _ _ (by intro e; injection e with e1 e2 <;> omega)).trans h.m4, (World.frozen?_setCell _ _ _ _).trans h.n0, (World.frozen?_setCell _ _ _ _).trans h.n1, (World.frozen?_setCell _ _ _ _).trans h.n2, (World.cell?_setCell_other _ _ _ _ (by intro e; injection e with e1 e2 <;> omega)).trans h.x0, (World.cell?_setCell_other _ _ _ _ (by intro e; injection e with e1 e2 <;> omega)).trans h.x1, (World.cell?_setCell_other _ _ _ _ (by intro e; injection e with e1 e2 <;> omega)).trans h.x2, (World.frozen?_setCell _ _ _ _).trans h.xf, (World.cell?_setCell_other _ _ _ _ (by intro e; injection e with e1 e2 <;> omega)).trans h.g0, (World.cell?_setCell_other _ _ _ _ (by intro e; injection e with e1 e2 <;> omega)).trans h.g1, (World.cell?_setCell_other _ _ _ _ (by intro e; injection e with e1 e2 <;> omega)).trans h.g2, (World.frozen?_setCell _ _ _ _).trans h.gf, (World.cell?_setCell_other _ _ _ _ (by intro e; injection e with e1 e2 <;> omega)).trans h.y0, (World.cell?_setCell_other _ _ _ _ (by intro e; injection e with e1 e2 <;> omega)).trans h.y1, (World.cell?_setCell_other _ _ _ _ (by intro e; injection e with e1 e2 <;> omega)).trans h.y2, (World.cell?_setCell_other _ _ _ _ (by intro e; injection e with e1 e2 <;> omega)).trans h.y3, (World.cell?_setCell_other _ _ _ _ (by intro e; injection e with e1 e2 <;> omega)).trans h.y4, (World.cell?_setCell_other _ _ _ _ (by intro e; injection e with e1 e2 <;> omega)).trans h.y5, (World.cell?_setCell_other _ _ _ _ (by intro e; injection e with e1 e2 <;> omega)).trans h.y6, (World.cell?_setCell_other _ _ _ _ (by intro e; injection e with e1 e2 <;> omega)).trans h.y7, (World.cell?_setCell_other _ _ _ _ (by intro e; injection e with e1 e2 <;> omega)).trans h.y8⟩
theorem CP.setG {w W : World} {m wa : Nat} {v0 v1 v2 : Value} {gt xt : Int} (h : CP w m wa v0 v1 v2 gt xt W) (v : Int) : CP w m wa v0 v1 v2 v xt (W.setCell ⟨w.heap.size + 3, 2, none⟩ (.int .i64 v)) := by
  have a := h.ml; have b := h.wl
  exact ⟨⟨h.gr.os, h.gr.tape, h.gr.output, by simpa [World.setCell] using h.gr.size, fun k hk hn => (Below.heap_setCell _ _ _ _ (by show k ≠ w.heap.size + 3; omega)).trans (h.gr.block k hk hn)⟩, h.ml, by simpa [World.setCell] using h.wl, (World.cell?_setCell_other _ _ _ _ (by intro e; injection e with e1 e2 <;> omega)).trans h.m0, (World.cell?_setCell_other _ _ _ _ (by intro e; injection e with e1 e2 <;> omega)).trans h.m1, (World.cell?_setCell_other _ _ _ _ (by intro e; injection e with e1 e2 <;> omega)).trans h.m2, (World.cell?_setCell_other _ _ _ _ (by intro e; injection e with e1 e2 <;> omega)).trans h.m3, (World.cell?_setCell_other _ _ _ _ (by intro e; injection e with e1 e2 <;> omega)).trans h.m4, (World.frozen?_setCell _ _ _ _).trans h.n0, (World.frozen?_setCell _ _ _ _).trans h.n1, (World.frozen?_setCell _ _ _ _).trans h.n2, (World.cell?_setCell_other _ _ _ _ (by intro e; injection e with e1 e2 <;> omega)).trans h.x0, (World.cell?_setCell_other _ _ _ _ (by intro e; injection e with e1 e2 <;> omega)).trans h.x1, (World.cell?_setCell_other _ _ _ _ (by intro e; injection e with e1 e2 <;> omega)).trans h.x2, (World.frozen?_setCell _ _ _ _).trans h.xf, (World.cell?_setCell_other _ _ _ _ (by intro e; injection e with e1 e2 <;> omega)).trans h.g0, (World.cell?_setCell_other _ _ _ _ (by intro e; injection e with e1 e2 <;> omega)).trans h.g1, World.cell?_setCell_same' _ _ _ (by rw [h.g2]; rfl), (World.frozen?_setCell _ _ _ _).trans h.gf, (World.cell?_setCell_other _ _ _ _ (by intro e; injection e with e1 e2 <;> omega)).trans h.y0, (World.cell?_setCell_other _ _ _ _ (by intro e; injection e with e1 e2 <;> omega)).trans h.y1, (World.cell?_setCell_other _ _ _ _ (by intro e; injection e with e1 e2 <;> omega)).trans h.y2, (World.cell?_setCell_other _ _ _ _ (by intro e; injection e with e1 e2 <;> omega)).trans h.y3, (World.cell?_setCell_other _ _ _ _ (by intro e; injection e with e1 e2 <;> omega)).trans h.y4, (World.cell?_setCell_other _ _ _ _ (by intro e; injection e with e1 e2 <;> omega)).trans h.y5, (World.cell?_setCell_other _ _ _ _ (by intro e; injection e with e1 e2 <;> omega)).trans h.y6, (World.cell?_setCell_other _ _ _ _ (by intro e; injection e with e1 e2 <;> omega)).trans h.y7, (World.cell?_setCell_other _ _ _ _ (by intro e; injection e with e1 e2 <;> omega)).trans h.y8⟩
theorem CP.setX {w W : World} {m wa : Nat} {v0 v1 v2 : Value} {gt xt : Int} (h : CP w m wa v0 v1 v2 gt xt W) (v : Int) : CP w m wa v0 v1 v2 gt v (W.setCell ⟨w.heap.size + 1, 2, none⟩ (.int .i64 v)) := by
  have a := h.ml; have b := h.wl
  exact ⟨⟨h.gr.os, h.gr.tape, h.gr.output, by simpa [World.setCell] using h.gr.size, fun k hk hn => (Below.heap_setCell _ _ _ _ (by show k ≠ w.heap.size + 1; omega)).trans (h.gr.block k hk hn)⟩, h.ml, by simpa [World.setCell] using h.wl, (World.cell?_setCell_other _ _ _ _ (by intro e; injection e with e1 e2 <;> omega)).trans h.m0, (World.cell?_setCell_other _ _ _ _ (by intro e; injection e with e1 e2 <;> omega)).trans h.m1, (World.cell?_setCell_other _ _ _ _ (by intro e; injection e with e1 e2 <;> omega)).trans h.m2, (World.cell?_setCell_other _ _ _ _ (by intro e; injection e with e1 e2 <;> omega)).trans h.m3, (World.cell?_setCell_other _ _ _ _ (by intro e; injection e with e1 e2 <;> omega)).trans h.m4, (World.frozen?_setCell _ _ _ _).trans h.n0, (World.frozen?_setCell _ _ _ _).trans h.n1, (World.frozen?_setCell _ _ _ _).trans h.n2, (World.cell?_setCell_other _ _ _ _ (by intro e; injection e with e1 e2 <;> omega)).trans h.x0, (World.cell?_setCell_other _ _ _ _ (by intro e; injection e with e1 e2 <;> omega)).trans h.x1, World.cell?_setCell_same' _ _ _ (by rw [h.x2]; rfl), (World.frozen?_setCell _ _ _ _).trans h.xf, (World.cell?_setCell_other _ _ _ _ (by intro e; injection e with e1 e2 <;> omega)).trans h.g0, (World.cell?_setCell_other _ _ _ _ (by intro e; injection e with e1 e2 <;> omega)).trans h.g1, (World.cell?_setCell_other _ _ _ _ (by intro e; injection e with e1 e2 <;> omega)).trans h.g2, (World.frozen?_setCell _ _ _ _).trans h.gf, (World.cell?_setCell_other _ _ _ _ (by intro e; injection e with e1 e2 <;> omega)).trans h.y0, (World.cell?_setCell_other _ _ _ _ (by intro e; injection e with e1 e2 <;> omega)).trans h.y1, (World.cell?_setCell_other _ _ _ _ (by intro e; injection e with e1 e2 <;> omega)).trans h.y2, (World.cell?_setCell_other _ _ _ _ (by intro e; injection e with e1 e2 <;> omega)).trans h.y3, (World.cell?_setCell_other _ _ _ _ (by intro e; injection e with e1 e2 <;> omega)).trans h.y4, (World.cell?_setCell_other _ _ _ _ (by intro e; injection e with e1 e2 <;> omega)).trans h.y5, (World.cell?_setCell_other _ _ _ _ (by intro e; injection e with e1 e2 <;> omega)).trans h.y6, (World.cell?_setCell_other _ _ _ _ (by intro e; injection e with e1 e2 <;> omega)).trans h.y7, (World.cell?_setCell_other _ _ _ _ (by intro e; injection e with e1 e2 <;> omega)).trans h.y8⟩
end Go.Proofs.YtjelneeeijjpiaaGreatDoor
end
