/- TopText: walks and plain laws, part 14: lemmas on what the functions that the law comes to compute. -/
import Derived.Test.YtjelneeeijjpiaaGreatDoorG13
import Derived.Test.YtjelneeeijjpiaaGreatDoorG05
import Derived.Test.YtjelneeeijjpiaaGreatDoorG06
import Derived.RangeFuncBox
import Derived.Test.YtjelneeeijjpiaaGreatDoorG09
set_option linter.unusedVariables false
set_option linter.unusedSimpArgs false
section
set_option maxRecDepth 100000
namespace Go.Proofs.YtjelneeeijjpiaaGreatDoor
open Go.RowKit Go.Shelf
attribute [local go_sem] Oper.semAt_some
set_option maxHeartbeats 1000000 in
theorem nchildren_any (n ns : Nat) (w : World) :
    CallsIn Fence.wide n Tryz.prog 327 #[.pointer (some ⟨ns, 0, none⟩), .int .i64 0] w fun e w' => e = .returned (.func (.func 357) #[] #[.pointer (some ⟨w.heap.size + 1, 0, none⟩), .pointer (some ⟨w.heap.size, 0, none⟩)]) ∧ w' = (w.alloc (.cells #[.pointer (some ⟨ns, 0, none⟩)] 96)).alloc (.cells #[.int .i64 0] 3) := by
  refine callsIn_of_wp Tryz.func327 rfl trivial ?_ rfl
  simp only [Tryz.ntmps327, List.size_toArray, List.length_cons, List.length_nil, Nat.reduceAdd, Nat.reduceSub, Array.replicate_succ, Array.replicate_zero, List.push_toArray, List.append_toArray, List.nil_append, List.cons_append]
  gi_wp2
  go_ret
  exact ⟨rfl, rfl⟩
def KpN (w0 : World) (Bi Bt : Nat) (W W' : World) : Prop := Tx.KpB Bi W W' ∧ Tx.KpB Bt W W' ∧ (Below w0.heap.size w0 W → Below w0.heap.size w0 W')
theorem KpN.t {w0 : World} {Bi Bt : Nat} {A B C : World} (h : KpN w0 Bi Bt A B) (k : KpN w0 Bi Bt B C) : KpN w0 Bi Bt A C := ⟨Tx.KpB_t h.1 k.1, Tx.KpB_t h.2.1 k.2.1, fun x => k.2.2 (h.2.2 x)⟩
theorem KpN.b {w0 w : World} {Bi Bt : Nat} (hw : w0.heap.size ≤ w.heap.size) (W : World) (l : Nat) (o o' : Obj) (hl : w.heap.size ≤ l) (h : W.heap[l]? = some o) (ho : o.isCells = false) (hk : o.isWalk = false) : KpN w0 Bi Bt W (W.putObj l o') :=
  ⟨Tx.KpB_b (w := w) W l o o' hl h ho hk, Tx.KpB_b (w := w) W l o o' hl h ho hk, fun x => x.trans (belowK_b (w := w) hw W l o o' hl h ho hk)⟩
theorem grown_drewN (W : World) (m : Nat) : W.grownBy (W.drewN m) none := (fun h : Below W.heap.size W (W.drewN m) => (⟨h.os, h.tape, h.output, h.size, fun k hk _ => h.block k hk⟩ : W.grownBy (W.drewN m) none)) (below_drewN (Below.refl W.heap.size W) m)
set_option maxHeartbeats 2000000 in
theorem nch1_in (n : Nat) (hn : 1 ≤ n) (l Bi Bt ns b B0 : Nat) (w0 : World) (hN : Ns w0 ns b) (J Jx : List (Int × Int) → World → Prop) (hJ : AbidesFrom B0 J)
    (hY : ∀ pre x W, J pre W → pre.length < 1 → YieldAt Fence.wide (n - 1) Tryz.prog l #[.int .i64 x.1, .int .i64 x.2] W fun e W' =>
      (e = .returned (.bool true) ∧ J (pre ++ [x]) W' ∧ KpN w0 Bi Bt W W') ∨ (e = .returned (.bool false) ∧ Jx (pre ++ [x]) W'))
    (W : World) (hBi : W.cell? ⟨Bi, 0, none⟩ = some (.int .i64 0)) (hBt : W.cell? ⟨Bt, 0, none⟩ = some (.pointer (some ⟨ns, 0, none⟩))) (hB : Below w0.heap.size w0 W) (h0 : J [] W) :
    CallsIn Fence.wide n Tryz.prog 357 #[.func (.yield l) #[] #[], .pointer (some ⟨Bi, 0, none⟩), .pointer (some ⟨Bt, 0, none⟩)] W fun e W' => (∃ v, e = .returned v) ∧
      ((∃ ys, ys = [((0 : Int), (1 : Int))] ∧ J ys W') ∨ (∃ pre, pre <+: [((0 : Int), (1 : Int))] ∧ Jx pre W')) := by
  refine callsIn_of_wp Tryz.func357 rfl trivial ?_ rfl
  simp only [Tryz.ntmps357, List.size_toArray, List.length_cons, List.length_nil, Nat.reduceAdd, Nat.reduceSub, Array.replicate_succ, Array.replicate_zero, List.push_toArray, List.append_toArray, List.nil_append, List.cons_append]
  gi_wp2
  refine wpIn_loop_rounds 2 ?_
  rw [roundsIn_succ]
  gi_wp2_with (first | (refine ⟨trivial, ?_⟩; gi_at_call 293; refine (callsIn_wide.2 (node_1 ns b _ (hN.below hB))).mono ?_; rintro e w9 ⟨rfl, m1, rfl⟩; obtain ⟨fn, tmps, assign, body, hy, hR⟩ := hY [] (0, 1) (W.drewN m1) (hJ _ _ _ _ h0 (grown_drewN W m1) (fun r e => by cases e)) (by simp); dsimp only at hy))
  refine hR.mono ?_
  rintro e W3 (⟨rfl, hJ3, hk3⟩ | ⟨rfl, hJx3⟩)
  · have hBi3 := hk3.1 _ (by rw [World.cell?_drewN]; exact hBi)
    have hBt3 := hk3.2.1 _ (by rw [World.cell?_drewN]; exact hBt)
    have hB3 := hk3.2.2 (below_drewN' hB m1)
    gi_wp2_with (first | (refine ⟨trivial, ?_⟩; gi_at_call 294; refine (callsIn_wide.2 (nclose_any ns b _ (hN.below hB3))).mono ?_; rintro e w9 ⟨rfl, m2, rfl⟩))
    rw [roundsIn_succ]
    gi_wp2_with (first | (refine ⟨trivial, ?_⟩; gi_at_call 293; refine (callsIn_wide.2 (node_3 ns b _ (hN.below (below_drewN' hB3 m2)))).mono ?_; rintro e w9 ⟨rfl, m3, rfl⟩))
    refine ⟨fun f hf => (by cases hf), ?_⟩
    gi_wp2
    go_end0
    exact ⟨⟨_, rfl⟩, .inl ⟨_, rfl, hJ _ _ _ _ hJ3 (grown_drewN W3 (m2 + m3)) (fun r e => by cases e)⟩⟩
  · gi_wp2
    go_end0
    exact ⟨⟨_, rfl⟩, .inr ⟨_, List.prefix_refl _, hJx3⟩⟩
theorem nch_stops (n : Nat) (hn : 1 ≤ n) (Bi Bt ns b : Nat) (w0 w : World) (hN : Ns w0 ns b) (h0 : Below w0.heap.size w0 w) (hBi : Bi < w.heap.size) (hBt : Bt < w.heap.size) (hci : w.cell? ⟨Bi, 0, none⟩ = some (.int .i64 0)) (hct : w.cell? ⟨Bt, 0, none⟩ = some (.pointer (some ⟨ns, 0, none⟩))) :
    SeqStopsK Fence.wide n Tryz.prog 357 #[.pointer (some ⟨Bi, 0, none⟩), .pointer (some ⟨Bt, 0, none⟩)] (fun x : Int × Int => #[Value.int .i64 x.1, Value.int .i64 x.2]) (KpN w0 Bi Bt) (fun ys => ys = [((0 : Int), (1 : Int))]) (fun pre => pre <+: [((0 : Int), (1 : Int))]) 1 w := fun l J Jx W hW hJ _ hY hj =>
  nch1_in n hn l Bi Bt ns b _ w0 hN J Jx hJ hY W ((hW.cell (p := ⟨Bi, 0, none⟩) hBi).trans hci) ((hW.cell (p := ⟨Bt, 0, none⟩) hBt).trans hct) (h0.trans (hW.mono h0.size)) hj
set_option maxHeartbeats 2000000 in
theorem ncount_any (ns b : Nat) (w : World) (h : Ns w ns b) : Calls Tryz.prog 326 #[.pointer (some ⟨ns, 0, none⟩), .int .i64 0] w fun e w' => e = .returned (.tuple #[.int .i64 1, .int .i64 0]) ∧ Below w.heap.size w w' := by
  refine (callsIn_wide (n := 5)).1 ?_
  refine callsIn_of_wp_marks Tryz.func326 rfl trivial ?_ rfl
  simp only [Tryz.ntmps326, List.size_toArray, List.length_cons, List.length_nil, Nat.reduceAdd, Nat.reduceSub, Array.replicate_succ, Array.replicate_zero, List.push_toArray, List.append_toArray, List.nil_append, List.cons_append]
  gi_wp2_with (first | (refine ⟨trivial, ?_⟩; gi_at_call 293; refine (callsIn_wide.2 (node_0 ns b _ (h.below (by (repeat' (first | refine Below.setCell ?_ (by first | (simp; done) | (simp; omega) | omega) _ | refine Below.alloc ?_ (by first | (simp; done) | (simp; omega) | omega) _ | exact Hid.out (by assumption) | exact Below.refl _ _)))))).mono ?_; rintro e W1 ⟨rfl, m1, hm⟩; have hb1 : Hid (Below w.heap.size w W1) := Lib.hid (hm ▸ below_drewN' (by (repeat' (first | refine Below.setCell ?_ (by first | (simp; done) | (simp; omega) | omega) _ | refine Below.alloc ?_ (by first | (simp; done) | (simp; omega) | omega) _ | exact Hid.out (by assumption) | exact Below.refl _ _))) m1); skip; clear hm; have hN1 : Ns W1 ns b := h.below hb1.out) | (refine ⟨trivial, ?_⟩; gi_at_call 327; refine (nchildren_any _ ns _).mono ?_; rintro e w' ⟨rfl, rfl⟩))
  have hx0 := (Tx.Bx.new W1 (.int .i64 0) 3).alloc (.cells #[.pointer (some ⟨ns, 0, none⟩)] 96) |>.alloc (.cells #[.int .i64 0] 3)
  have hx1 := (Tx.Bx.new (W1.alloc (.cells #[.int .i64 0] 3)) (.pointer (some ⟨ns, 0, none⟩)) 96).alloc (.cells #[.int .i64 0] 3)
  have hx2 := Tx.Bx.new ((W1.alloc (.cells #[.int .i64 0] 3)).alloc (.cells #[.pointer (some ⟨ns, 0, none⟩)] 96)) (.int .i64 0) 3
  simp only [World.size_alloc] at hx1 hx2
  have hB0 : Below W1.heap.size W1 (((W1.alloc (.cells #[.int .i64 0] 3)).alloc (.cells #[.pointer (some ⟨ns, 0, none⟩)] 96)).alloc (.cells #[.int .i64 0] 3)) := (((Below.refl _ _).alloc (Nat.le_refl _) _).alloc (by simp) _).alloc (by simp; omega) _
  refine wpIn_rangeFunc_ownF rfl (by omega) (gf := 357) (lb := #[.pointer (some ⟨W1.heap.size + 1 + 1, 0, none⟩), .pointer (some ⟨W1.heap.size + 1, 0, none⟩)]) rfl trivial (enters_of Tryz.func357 (by kernel_rfl) rfl)
    (nch_stops _ (by omega) (W1.heap.size + 1 + 1) (W1.heap.size + 1) ns b W1 _ hN1 hB0 (by simp) (by simp) hx2.cells.1 hx1.cells.1) KpN.t (KpN.b (by simp; omega)) (Below.refl _ _) (fun _ => rfl)
    (fun pre W => Tx.Bx W W1.heap.size (.int .i64 (pre.length : Nat)) 3 ∧ Below W1.heap.size W1 W)
    (fun c pre W => False)
    (OwnFrom.and (Own.from (fun s A B row hs hg hr => hs.own hg hr) _) (ownFrom_below (Nat.le_refl _) (by simp; omega)))
    (fun c s A B row hs hg hr => hs.elim)
    ⟨hx0, hB0⟩
    (fun x => { tmps := #[.pointer (some ⟨ns, 0, none⟩), .int .i64 0, undef, undef, .int .i64 0, .int .i64 0, .pointer (some ⟨W1.heap.size, 0, none⟩), .pointer (some ⟨ns, 0, none⟩), .int .i64 0, .bool true, .bool false, .pointer (some ⟨ns, 0, none⟩), .int .i64 0, .func (.func 357) #[] #[.pointer (some ⟨W1.heap.size + 1 + 1, 0, none⟩), .pointer (some ⟨W1.heap.size + 1, 0, none⟩)], .int .i64 x.1, .int .i64 x.2, undef, undef, undef], defers := [] }) ?assign ?body ?done ?stop
  case assign =>
    intro l x W K hK
    gi_wp2
    simpa using hK
  case body =>
    rintro l pre x W ⟨hT, hB⟩ hlen
    obtain ⟨hc0, hf0⟩ := hT.cells
    have hl0 : pre.length = 0 := by omega
    gi_wp2
    refine ⟨KeepsOthers.setCell _ _ _, ⟨fun v hv => ?_, fun v hv => ?_, fun k => k.setCell (p := ⟨W1.heap.size, 0, none⟩) (Nat.le_refl _) _⟩, ?_, hB.setCell (p := ⟨W1.heap.size, 0, none⟩) (Nat.le_refl _) _⟩
    · rw [World.cell?_setCell_other _ _ _ _ (by intro e; injection e with e1; omega)]; exact hv
    · rw [World.cell?_setCell_other _ _ _ _ (by intro e; injection e with e1; omega)]; exact hv
    · have := hT.set (.int .i64 1)
      rw [List.length_append, hl0]
      exact this
  case done =>
    rintro D ys W hD rfl ⟨hT, hB⟩ hK
    obtain ⟨hc0, hf0⟩ := hT.cells
    gi_wp2
    refine ⟨by simp, .inl ⟨_, _, rfl, run_takeDeferred hK, ?_⟩⟩
    refine ⟨.tuple #[.int .i64 1, .int .i64 0], ?_, rfl, (hb1.out.trans (hB.mono hb1.out.size)).trans (belowK_b (w := w) (Nat.le_refl _) _ D _ _ (by have := hb1.out.size; simp at hD; omega) hK rfl rfl)⟩
    simp [results, Tryz.f326, go_sem]
  case stop =>
    rintro D c pre W hD hpre hf hK
    exact hf.elim
set_option maxHeartbeats 2000000 in
theorem nchild_any (ns b : Nat) (w : World) (h : Ns w ns b) : Calls Tryz.prog 279 #[.pointer (some ⟨ns, 0, none⟩), .int .i64 0, .int .i64 0] w fun e w' => e = .returned (.tuple #[.int .i64 1, .int .i64 0]) ∧ Below w.heap.size w w' := by
  refine (callsIn_wide (n := 5)).1 ?_
  refine callsIn_of_wp_marks Tryz.func279 rfl trivial ?_ rfl
  simp only [Tryz.ntmps279, List.size_toArray, List.length_cons, List.length_nil, Nat.reduceAdd, Nat.reduceSub, Array.replicate_succ, Array.replicate_zero, List.push_toArray, List.append_toArray, List.nil_append, List.cons_append]
  gi_wp2_with (first | (refine ⟨trivial, ?_⟩; gi_at_call 293; refine (callsIn_wide.2 (node_0 ns b _ (h.below (by (repeat' (first | refine Below.setCell ?_ (by first | (simp; done) | (simp; omega) | omega) _ | refine Below.alloc ?_ (by first | (simp; done) | (simp; omega) | omega) _ | exact Hid.out (by assumption) | exact Below.refl _ _)))))).mono ?_; rintro e W1 ⟨rfl, m1, hm⟩; have hb1 : Hid (Below w.heap.size w W1) := Lib.hid (hm ▸ below_drewN' (by (repeat' (first | refine Below.setCell ?_ (by first | (simp; done) | (simp; omega) | omega) _ | refine Below.alloc ?_ (by first | (simp; done) | (simp; omega) | omega) _ | exact Hid.out (by assumption) | exact Below.refl _ _))) m1); have hW1 := Lib.hid hm; clear hm; have hN1 : Ns W1 ns b := h.below hb1.out) | (refine ⟨trivial, ?_⟩; gi_at_call 327; refine (nchildren_any _ ns _).mono ?_; rintro e w' ⟨rfl, rfl⟩))
  have hy0 : Tx.Bx W1 w.heap.size (.int .i64 0) 3 := by rw [hW1.out]; exact (((Tx.Bx.new w _ _).alloc _).alloc _).below (below_drewN' (Below.refl _ _) _)
  have hy1 : Tx.Bx W1 (w.heap.size + 1) (.int .i64 0) 3 := by rw [hW1.out]; simpa using (((Tx.Bx.new (w.alloc (.cells #[.int .i64 0] 3)) (.int .i64 0) 3).alloc (.cells #[.int .i64 0] 37))).below (below_drewN' (Below.refl _ _) m1)
  have hy2 : Tx.Bx W1 (w.heap.size + 1 + 1) (.int .i64 0) 37 := by rw [hW1.out]; simpa using ((Tx.Bx.new ((w.alloc (.cells #[.int .i64 0] 3)).alloc (.cells #[.int .i64 0] 3)) (.int .i64 0) 37)).below (below_drewN' (Below.refl _ _) m1)
  have hsz := hb1.out.size
  clear hW1
  have hx1 := (Tx.Bx.new W1 (.pointer (some ⟨ns, 0, none⟩)) 96).alloc (.cells #[.int .i64 0] 3)
  have hx2 := Tx.Bx.new (W1.alloc (.cells #[.pointer (some ⟨ns, 0, none⟩)] 96)) (.int .i64 0) 3
  simp only [World.size_alloc] at hx2
  have hB0 : Below w.heap.size w ((W1.alloc (.cells #[.pointer (some ⟨ns, 0, none⟩)] 96)).alloc (.cells #[.int .i64 0] 3)) := (hb1.out.alloc (by omega) _).alloc (by simp; omega) _
  refine wpIn_rangeFunc_ownF rfl (by omega) (gf := 357) (lb := #[.pointer (some ⟨W1.heap.size + 1, 0, none⟩), .pointer (some ⟨W1.heap.size, 0, none⟩)]) rfl trivial (enters_of Tryz.func357 (by kernel_rfl) rfl)
    (nch_stops _ (by omega) (W1.heap.size + 1) W1.heap.size ns b w _ h hB0 (by simp) (by simp; omega) hx2.cells.1 hx1.cells.1) KpN.t (KpN.b (by simp; omega)) (Below.refl _ _) (fun _ => rfl)
    (fun pre W => ((∀ y ∈ pre, y.1 ≠ 0) ∧ Tx.Bx W w.heap.size (.int .i64 0) 3 ∧ Tx.Bx W (w.heap.size + 1) (.int .i64 0) 3 ∧ Tx.Bx W (w.heap.size + 1 + 1) (.int .i64 0) 37) ∧ Below w.heap.size w W)
    (fun c pre W => (c = .ret ∧ (∃ x, x.1 = 0 ∧ (x.2 = 1 ∨ x ∈ pre) ∧ Tx.Bx W (w.heap.size + 1) (.int .i64 x.2) 3) ∧ Tx.Bx W (w.heap.size + 1 + 1) (.int .i64 0) 37) ∧ Below w.heap.size w W)
    (OwnFrom.and (Own.from (fun s A B row hs hg hr => ⟨hs.1, hs.2.1.own hg hr, hs.2.2.1.own hg hr, hs.2.2.2.own hg hr⟩) _) (ownFrom_below (Nat.le_refl _) (by simp; omega)))
    (fun c => OwnFrom.and (Own.from (fun s A B row hs hg hr => ⟨hs.1, hs.2.1.elim fun x hx => ⟨x, hx.1, hx.2.1, hx.2.2.own hg hr⟩, hs.2.2.own hg hr⟩) _) (ownFrom_below (Nat.le_refl _) (by simp; omega)))
    ⟨⟨by simp, (hy0.alloc _).alloc _, (hy1.alloc _).alloc _, (hy2.alloc _).alloc _⟩, hB0⟩
    (fun x => { tmps := #[.pointer (some ⟨ns, 0, none⟩), .int .i64 0, .int .i64 0, undef, undef, .pointer (some ⟨w.heap.size, 0, none⟩), .pointer (some ⟨w.heap.size + 1, 0, none⟩), .pointer (some ⟨w.heap.size + 1 + 1, 0, none⟩), .int .i64 x.1, .int .i64 x.2, .pointer (some ⟨ns, 0, none⟩), .int .i64 0, .bool true, .bool false, .pointer (some ⟨ns, 0, none⟩), .int .i64 0, .func (.func 357) #[] #[.pointer (some ⟨W1.heap.size + 1, 0, none⟩), .pointer (some ⟨W1.heap.size, 0, none⟩)], .int .i64 x.1, .int .i64 x.2, undef, undef, undef, undef], defers := [] }) ?assign ?body ?done ?stop
  case assign =>
    intro l x W K hK
    gi_wp2
    simpa using hK
  case body =>
    rintro l pre x W ⟨⟨hp, hT0, hT1, hT2⟩, hB⟩ hlen
    obtain ⟨hc0, hf0⟩ := hT0.cells
    obtain ⟨hc1, hf1⟩ := hT1.cells
    obtain ⟨hc2, hf2⟩ := hT2.cells
    by_cases hx : x.1 = 0
    · have hxb : (x.1 == 0) = true := by rw [beq_iff_eq]; exact hx
      gi_wp2
      exact ⟨(KeepsOthers.setCell _ _ _).trans (KeepsOthers.setCell _ _ _), ⟨rfl, ⟨x, hx, .inr (List.mem_append.2 (.inr (by simp))), (hT1.set _).other (by omega) _⟩, (hT2.other (by omega) _).set _⟩, (hB.setCell (p := ⟨w.heap.size + 1, 0, none⟩) (by simp) _).setCell (p := ⟨w.heap.size + 1 + 1, 0, none⟩) (by simp; omega) _⟩
    · have hxb : (x.1 == 0) = false := by rw [beq_eq_false_iff_ne]; exact hx
      gi_wp2
      exact ⟨KeepsOthers.refl _, ⟨fun v hv => hv, fun v hv => hv, fun k => k⟩, ⟨fun y hy => (List.mem_append.1 hy).elim (hp y) (fun e e' => by simp at e; subst e; exact hx e'), hT0, hT1, hT2⟩, hB⟩
  case done =>
    rintro D ys W hD rfl ⟨⟨hp, _⟩, hB⟩ hK
    exact absurd rfl (hp (0, 1) (by simp))
  case stop =>
    rintro D c pre W hD hpre ⟨⟨rfl, ⟨x, hx, hx2, hT1⟩, hT2⟩, hB⟩ hK
    have hx1 : x.2 = 1 := hx2.elim id fun hm => by
      have := hpre.subset hm
      simp at this; rw [this]
    rw [hx1] at hT1
    gi_wp2
    refine ⟨by simp, .inl ⟨_, _, rfl, run_takeDeferred hK, ?_⟩⟩
    have hc5 := cell_kept hT1.cells.1 (grownBy_putObj' _ D (.deferred none)) (fun r e => by cases e; exact ⟨_, hK, rfl⟩)
    have hc6 := cell_kept hT2.cells.1 (grownBy_putObj' _ D (.deferred none)) (fun r e => by cases e; exact ⟨_, hK, rfl⟩)
    refine ⟨.tuple #[.int .i64 1, .int .i64 0], ?_, rfl, hB.trans (belowK_b (w := w) (Nat.le_refl _) W D _ _ (by simp at hD; omega) hK rfl rfl)⟩
    simp [results, Tryz.f279, go_sem, hc5, hc6]
end Go.Proofs.YtjelneeeijjpiaaGreatDoor
end
section
set_option maxRecDepth 100000
namespace Go.Proofs.YtjelneeeijjpiaaGreatDoor
open Go.RowKit Go.Shelf
attribute [local go_sem] Oper.semAt_some
inductive Ms (s : ByteArray) : Nat → Bool → List (Int × Int) → Prop
  | nil (k : Nat) (b : Bool) : s.size ≤ k → Ms s k b []
  | escT (k : Nat) (ys : List (Int × Int)) (h : k < s.size) : ((s[k]'h).toNat : Int) = 92 → Ms s (k + 2) true ys → Ms s k true ys
  | outT (k : Nat) (ys : List (Int × Int)) (h : k < s.size) : ((s[k]'h).toNat : Int) = 34 → Ms s (k + 1) false ys → Ms s k true ys
  | skipT (k : Nat) (ys : List (Int × Int)) (h : k < s.size) : ((s[k]'h).toNat : Int) ≠ 34 → ((s[k]'h).toNat : Int) ≠ 92 → Ms s (k + 1) true ys → Ms s k true ys
  | inF (k : Nat) (ys : List (Int × Int)) (h : k < s.size) : ((s[k]'h).toNat : Int) = 34 → Ms s (k + 1) true ys → Ms s k false ys
  | skipF (k : Nat) (ys : List (Int × Int)) (h : k < s.size) : 45 ≤ ((s[k]'h).toNat : Int) ∧ ((s[k]'h).toNat : Int) ≤ 57 → Ms s (k + 1) false ys → Ms s k false ys
  | yldF (k : Nat) (ys : List (Int × Int)) (c : Int) (h : k < s.size) : ((s[k]'h).toNat : Int) = c → c = 91 ∨ c = 93 → Ms s (k + 1) false ys → Ms s k false (((k : Int), c) :: ys)
theorem mis_yes (c : Int) (h : c = 91 ∨ c = 93) (w : World) : Calls Tryz.prog 118 #[.int .u8 c] w fun e w' => e = .returned (.bool true) ∧ w = w' := by
  rcases h with rfl | rfl
  all_goals
    go_enter Tryz.func118, Tryz.ntmps118
    go_wp2
    go_ret
    exact ⟨rfl, rfl⟩
theorem mis_no (c : Int) (h : 45 ≤ c ∧ c ≤ 57) (w : World) : Calls Tryz.prog 118 #[.int .u8 c] w fun e w' => e = .returned (.bool false) ∧ w = w' := by
  obtain ⟨h1, h2⟩ := h
  have e1 : (c == 91) = false := by rw [beq_eq_false_iff_ne]; omega
  have e2 : (c == 93) = false := by rw [beq_eq_false_iff_ne]; omega
  have e3 : (c == 123) = false := by rw [beq_eq_false_iff_ne]; omega
  have e4 : (c == 125) = false := by rw [beq_eq_false_iff_ne]; omega
  have e5 : (c == 58) = false := by rw [beq_eq_false_iff_ne]; omega
  have e6 : (c == 44) = false := by rw [beq_eq_false_iff_ne]; omega
  go_enter Tryz.func118, Tryz.ntmps118
  go_wp2
  go_ret
  exact ⟨rfl, rfl⟩
set_option maxHeartbeats 1000000 in
theorem each_any (n : Nat) (s : ByteArray) (w : World) :
    CallsIn Fence.wide n Tryz.prog 72 #[.string s] w fun e w' => e = .returned (.func (.func 117) #[] #[.pointer (some ⟨w.heap.size, 0, none⟩)]) ∧ w' = w.alloc (.cells #[.string s] 9) := by
  refine callsIn_of_wp Tryz.func72 rfl trivial ?_ rfl
  simp only [Tryz.ntmps72, List.size_toArray, List.length_cons, List.length_nil, Nat.reduceAdd, Nat.reduceSub, Array.replicate_succ, Array.replicate_zero, List.push_toArray, List.append_toArray, List.nil_append, List.cons_append]
  gi_wp2
  go_ret
  exact ⟨rfl, rfl⟩
set_option maxRecDepth 100000 in
set_option maxHeartbeats 2000000 in
theorem each1_in (n : Nat) (hn : 1 ≤ n) (l Bn : Nat) (s : ByteArray) (hs : s.size ≤ 100000) (zs : List (Int × Int)) (hZ : Ms s 0 false zs) (J Jx : List (Int × Int) → World → Prop)
    (hY : ∀ pre x W, J pre W → pre.length < zs.length → YieldAt Fence.wide (n - 1) Tryz.prog l #[.int .i64 x.1, .int .u8 x.2] W fun e W' =>
      (e = .returned (.bool true) ∧ J (pre ++ [x]) W' ∧ Tx.KpB Bn W W') ∨ (e = .returned (.bool false) ∧ Jx (pre ++ [x]) W'))
    (W : World) (hBn : W.cell? ⟨Bn, 0, none⟩ = some (.string s)) (h0 : J [] W) :
    CallsIn Fence.wide n Tryz.prog 117 #[.func (.yield l) #[] #[], .pointer (some ⟨Bn, 0, none⟩)] W fun e W' => (∃ v, e = .returned v) ∧
      ((∃ ys, ys = zs ∧ J ys W') ∨ (∃ pre, pre <+: zs ∧ Jx pre W')) := by
  refine callsIn_of_wp Tryz.func117 rfl trivial ?_ rfl
  simp only [Tryz.ntmps117, List.size_toArray, List.length_cons, List.length_nil, Nat.reduceAdd, Nat.reduceSub, Array.replicate_succ, Array.replicate_zero, List.push_toArray, List.append_toArray, List.nil_append, List.cons_append]
  gi_wp2
  refine wpIn_wide.2 (wp_scope_straight ((wpIn_wide (n := n)).1 ?_))
  gi_wp2
  rename_i hK0
  refine wpIn_label (hK0 _ _ ?_)
  clear hK0
  gi_wp2
  gi_loopw [3, 4] (fun vb vk wr => ∃ (k : Nat) (b : Bool) (pre ys : List (Int × Int)), vb = .bool b ∧ vk = .int .i64 k ∧ k ≤ s.size + 1 ∧ Ms s k b ys ∧ Hid (zs = pre ++ ys) ∧ J pre wr ∧ wr.cell? ⟨Bn, 0, none⟩ = some (.string s)) (fun _ v _ => s.size + 2 - (intOf v).toNat)
  case atStart => exact ⟨0, false, [], zs, rfl, rfl, by omega, hZ, Lib.hid rfl, h0, hBn⟩
  case round =>
    clear hZ h0 hBn
    obtain ⟨k, b, pre, ys, rfl, rfl, hk, hM, hX, hJ, hB⟩ := hrel
    cases hM with
    | nil _ _ hle =>
      have hki : ¬ (k : Int) < (s.size : Int) := by omega
      have hE : Hid (pre = zs) := Lib.hid (by rw [hX.out]; simp)
      gi_wp2
      go_end0
      exact ⟨⟨_, rfl⟩, .inl ⟨_, hE.out, hJ⟩⟩
    | escT _ _ hlt hc hM =>
      have hki : (k : Int) < (s.size : Int) := by omega
      gi_wp2
      go_roundw
      case rel => exact ⟨k + 2, true, pre, ys, rfl, by go_num, by omega, hM, hX, hJ, hB⟩
      case measure => simp [intOf]; omega
    | outT _ _ hlt hc hM =>
      have hki : (k : Int) < (s.size : Int) := by omega
      gi_wp2
      go_roundw
      case rel => exact ⟨k + 1, false, pre, ys, rfl, by go_num, by omega, hM, hX, hJ, hB⟩
      case measure => simp [intOf]; omega
    | skipT _ _ hlt h34 h92 hM =>
      have hki : (k : Int) < (s.size : Int) := by omega
      have d1 : (((s[k]'hlt).toNat : Int) == 34) = false := by rw [beq_eq_false_iff_ne]; exact h34
      have d2 : (((s[k]'hlt).toNat : Int) == 92) = false := by rw [beq_eq_false_iff_ne]; exact h92
      clear h34 h92
      gi_wp2
      refine ⟨trivial, ?_⟩
      rename_i hK
      refine hK _ _ ?_
      clear hK
      gi_wp2
      go_roundw
      case rel => exact ⟨k + 1, true, pre, ys, rfl, by go_num, by omega, hM, hX, hJ, hB⟩
      case measure => simp [intOf]; omega
    | inF _ _ hlt hc hM =>
      have hki : (k : Int) < (s.size : Int) := by omega
      gi_wp2
      go_roundw
      case rel => exact ⟨k + 1, true, pre, ys, rfl, by go_num, by omega, hM, hX, hJ, hB⟩
      case measure => simp [intOf]; omega
    | skipF _ _ hlt hc hM =>
      have hki : (k : Int) < (s.size : Int) := by omega
      have d1 : (((s[k]'hlt).toNat : Int) == 34) = false := by rw [beq_eq_false_iff_ne]; omega
      gi_wp2_with (refine ⟨trivial, ?_⟩; gi_at_call 118; refine (callsIn_wide.2 (mis_no _ hc _)).mono ?_; rintro e w' ⟨rfl, rfl⟩)
      go_roundw
      case rel => exact ⟨k + 1, false, pre, ys, rfl, by go_num, by omega, hM, hX, hJ, hB⟩
      case measure => simp [intOf]; omega
    | yldF _ ys c hlt hc hcc hM =>
      have hki : (k : Int) < (s.size : Int) := by omega
      have d1 : (c == 34) = false := by rw [beq_eq_false_iff_ne]; omega
      have hlen : pre.length < zs.length := by rw [hX.out]; simp
      have hX2 : Hid (zs = (pre ++ [((k : Int), c)]) ++ ys) := Lib.hid (by rw [hX.out]; simp)
      obtain ⟨fn, tmps, assign, body, hy, hR⟩ := hY pre ((k : Int), c) wr hJ hlen
      dsimp only at hy
      gi_wp2_with (refine ⟨trivial, ?_⟩; gi_at_call 118; refine (callsIn_wide.2 (mis_yes _ hcc _)).mono ?_; rintro e w' ⟨rfl, rfl⟩)
      refine hR.mono ?_
      rintro e W3 (⟨rfl, hJ3, hk3⟩ | ⟨rfl, hJx3⟩)
      · have hB3 := hk3 _ hB
        gi_wp2
        go_roundw
        case rel => go_light; exact ⟨k + 1, false, _, ys, rfl, by go_num, by omega, hM, hX2, hJ3, hB3⟩
        case measure => simp [intOf]; omega
      · gi_wp2
        rw [Exit.noGoto_ret]
        refine bodyPost_ret (results_none rfl _ _ _) rfl ?_
        exact ⟨⟨_, rfl⟩, .inr ⟨_, ⟨ys, by rw [hX2.out]⟩, hJx3⟩⟩
end Go.Proofs.YtjelneeeijjpiaaGreatDoor
end
section
set_option maxRecDepth 100000
namespace Go.Proofs.YtjelneeeijjpiaaGreatDoor
open Go.RowKit Go.Shelf
attribute [local go_sem] Oper.semAt_some
theorem each_stops (n : Nat) (hn : 1 ≤ n) (Bn : Nat) (s : ByteArray) (hs : s.size ≤ 100000) (zs : List (Int × Int)) (hZ : Ms s 0 false zs) (w : World) (hBn : Bn < w.heap.size) (hc : w.cell? ⟨Bn, 0, none⟩ = some (.string s)) :
    SeqStopsK Fence.wide n Tryz.prog 117 #[.pointer (some ⟨Bn, 0, none⟩)] (fun x : Int × Int => #[Value.int .i64 x.1, Value.int .u8 x.2]) (Tx.KpB Bn) (fun ys => ys = zs) (fun pre => pre <+: zs) zs.length w := fun l J Jx W hW _ _ hY h0 =>
  each1_in n hn l Bn s hs zs hZ J Jx hY W ((hW.cell (p := ⟨Bn, 0, none⟩) hBn).trans hc) h0
theorem info4 : (Tryz.prog.info? 4).map (fun i => (i.zero, i.size, i.bytes)) = some (some (.bool false), 1, 1) := by kernel_rfl
theorem boxed_own {W W' : World} {row : Option Nat} {B : Nat} {t : TypeId} {v : Value} (h : Boxed W B t v) (hg : W.grownBy W' row) (hr : ∀ r, row = some r → ∃ o : Obj, W.heap[r]? = some o ∧ o.isCells = false) : Boxed W' B t v :=
  h.kept hg fun e' => by
    obtain ⟨o, ho, hc⟩ := hr B e'.symm
    rw [show W.heap[B]? = _ from h] at ho; cases ho; cases hc
theorem Boxed.other {W : World} {B q : Nat} {t : TypeId} {v : Value} (h : Boxed W B t v) (hq : B ≠ q) (v' : Value) : Boxed (W.setCell ⟨q, 0, none⟩ v') B t v := by
  unfold Boxed at *; rw [Below.heap_setCell _ _ _ _ hq]; exact h
theorem Boxed.kp {W W' : World} {B : Nat} {t : TypeId} {v : Value} (h : Boxed W B t v) (h' : Boxed W' B t v) : Tx.KpB B W W' := fun u hu => by
  rw [h.cell] at hu; injection hu with hu; subst hu; exact h'.cell
def PlI (w : World) (s : ByteArray) (pre : List (Int × Int)) (W : World) : Prop := (∃ v, Boxed W w.heap.size 86 v ∧ W.ownsRow w.heap.size 3 1 v pre.length (pre.map fun x => Value.int .i64 x.1) ∧ True) ∧ Boxed W (w.heap.size + 1) 9 (.string s)
set_option maxRecDepth 100000 in
set_option maxHeartbeats 2000000 in
theorem places_any (s : ByteArray) (hs : s.size ≤ 100000) (L : Nat) (hZ : Ms s 0 false [((0 : Int), (91 : Int)), ((L : Int), (93 : Int))]) (w : World) :
    Calls Tryz.prog 37 #[.string s] w fun e w' => ∃ g c, e = .returned (.slice (some ⟨g, 0, none⟩) 2 c) ∧ Two w' g L ∧ Below w.heap.size w w' := by
  obtain ⟨i0, hi, hz0, hz1, hz2⟩ := info_parts info3
  refine (callsIn_wide (n := 5)).1 ?_
  refine callsIn_of_wp_marks Tryz.func37 rfl trivial ?_ rfl
  simp only [Tryz.ntmps37, List.size_toArray, List.length_cons, List.length_nil, Nat.reduceAdd, Nat.reduceSub, Array.replicate_succ, Array.replicate_zero, List.push_toArray, List.append_toArray, List.nil_append, List.cons_append]
  gi_wp2_with (refine ⟨trivial, ?_⟩; gi_at_call 72; refine (each_any _ s _).mono ?_; rintro e w' ⟨rfl, rfl⟩)
  have bO := Boxed.new w 86 (.slice none 0 0)
  have bN := Boxed.new (w.alloc (.cells #[.slice none 0 0] 86)) 9 (.string s)
  rw [World.size_alloc] at bN
  have hB0 : Below w.heap.size w ((w.alloc (.cells #[.slice none 0 0] 86)).alloc (.cells #[.string s] 9)) := ((Below.refl _ w).alloc (Nat.le_refl _) _).alloc (by simp) _
  refine wpIn_rangeFunc_ownF rfl (by omega) (gf := 117) (lb := #[.pointer (some ⟨w.heap.size + 1, 0, none⟩)]) rfl trivial (enters_of Tryz.func117 (by kernel_rfl) rfl)
    (each_stops _ (by omega) (w.heap.size + 1) s hs _ hZ _ (by simp) bN.cell) Tx.KpB_t Tx.KpB_b (Below.refl _ _) (fun _ => rfl)
    (fun pre W => PlI w s pre W ∧ Below w.heap.size w W)
    (fun _ _ _ => False)
    (OwnFrom.and (Own.from (fun p A B row hs hg hr => ⟨holdsRow_own w.heap.size w.heap.size 86 3 1 (fun pre : List (Int × Int) => pre.length) (fun pre => pre.map fun x => Value.int .i64 x.1) (fun _ _ => True) p A B row hs.1 hg hr, boxed_own hs.2 hg hr⟩) _) (ownFrom_below (Nat.le_refl _) (by simp; omega)))
    (fun _ _ _ _ _ hs _ _ => hs)
    ⟨⟨⟨_, bO.alloc _, World.ownsRow_nil _ _ _ _, trivial⟩, bN⟩, hB0⟩
    (fun x => { tmps := #[.string s, undef, .slice none 0 0, .pointer (some ⟨w.heap.size, 0, none⟩), .int .i64 x.1, .string s, .func (.func 117) #[] #[.pointer (some ⟨w.heap.size + 1, 0, none⟩)], .int .i64 x.1, .int .u8 x.2, undef, undef, undef, undef, undef], defers := [] }) ?assign ?body ?done ?stop
  case assign =>
    intro l x W K hK
    gi_wp2
    exact hK
  case body =>
    rintro l pre x W ⟨⟨⟨v, hv, hrow, -⟩, hN⟩, hB⟩ hlt
    have hc := hv.cell
    have hpl : pre.length < 2 := hlt
    gi_wp2_with (gi_at_builtin; refine wpListIn_append_own _ rfl _ _ 86 rfl w.heap.size 3 i0 (.int .i64 0) 1 8 Tryz.underlying86 hi hz0 hz1 hz2 rfl (by decide) _ _ _ rfl (hrow.alloc _) ⟨W.heap.size, 0, none⟩ 1 1 [.int .i64 x.1] rfl rfl (cell_one_new _ _ _) (by simp [Value.oneCell']) (by unfold maxLen; omega) (by omega) (by have := hB.size; simp; omega) ?_; intro v' w1 hown' hgrow _; obtain ⟨g', cap', rfl⟩ := ownsRow_succ hown'; have hN2 := ((hN.alloc _).kept hgrow (hN.not_row (by decide) hrow)).other (show w.heap.size + 1 ≠ w.heap.size by omega) (.slice (some ⟨g', 0, none⟩) (pre.length + 1) cap'); obtain ⟨hv1, hv2, hr2, hk2, hb2⟩ := hv.appended (by decide) hrow hB.size (Nat.le_refl _) hown' hgrow; have hc1 := hv1.cell; have hf1 := hv1.frozen)
    exact ⟨hk2, Boxed.kp hN hN2, ⟨⟨⟨_, hv2, by simpa using hr2, trivial⟩, hN2⟩, hB.trans hb2⟩⟩
  case done =>
    rintro D ys W hD rfl ⟨⟨⟨v, hv, hrow, -⟩, hN⟩, hB⟩ hK
    obtain ⟨g, cap, rfl⟩ := ownsRow_succ (k := 1) hrow
    have hc := hv.cell
    have hr := ownsRow_putObj hrow (.deferred none) hK rfl
    have hb := hB.trans (belowK_b (w := w) (Nat.le_refl _) W D _ (.deferred none) (by simp at hD; omega) hK rfl rfl)
    have hA : Acc w _ 3 1 (.slice (some ⟨g, 0, none⟩) (1 + 1) cap) (1 + 1) _ := ⟨hr, hb⟩
    have hrw := hA.row
    have HT : Hid (Two _ g L) := Lib.hid ⟨hrw.2.1, hrw.2.2 0 _ rfl, hrw.2.2 1 _ rfl⟩
    clear hrw hA hr
    gi_wp2
    refine ⟨by simp, .inl ⟨_, _, rfl, run_takeDeferred hK, ?_⟩⟩
    exact ⟨_, results_tmp rfl _ _ _, g, cap, rfl, HT.out, hb⟩
  case stop =>
    rintro D c pre W _ _ h _
    exact h.elim
def prs (c : Int) : List Value := if c = 91 ∨ c = 123 then [.bool true, .bool true] else if c = 93 ∨ c = 125 then [.bool false, .bool false] else [.bool false, .bool true]
def PrI (w : World) (s : ByteArray) (pre : List (Int × Int)) (W : World) : Prop := (∃ v, Boxed W w.heap.size 94 v ∧ W.ownsRow w.heap.size 4 1 v (2 * pre.length) (pre.flatMap fun x => prs x.2) ∧ True) ∧ Boxed W (w.heap.size + 1) 9 (.string s)
def Four (w : World) (g : Nat) : Prop := g < w.heap.size ∧ w.cell? ⟨g, 0, none⟩ = some (.bool true) ∧ w.cell? ⟨g, 1, none⟩ = some (.bool true) ∧ w.cell? ⟨g, 2, none⟩ = some (.bool false) ∧ w.cell? ⟨g, 3, none⟩ = some (.bool false)
theorem Four.below {w w' : World} {g : Nat} (h : Four w g) (hb : Below w.heap.size w w') : Four w' g :=
  ⟨Nat.lt_of_lt_of_le h.1 hb.size, (hb.cell (p := ⟨g, 0, none⟩) h.1).trans h.2.1, (hb.cell (p := ⟨g, 1, none⟩) h.1).trans h.2.2.1, (hb.cell (p := ⟨g, 2, none⟩) h.1).trans h.2.2.2.1, (hb.cell (p := ⟨g, 3, none⟩) h.1).trans h.2.2.2.2⟩
set_option maxRecDepth 100000 in
set_option maxHeartbeats 4000000 in
theorem parens_any (s : ByteArray) (hs : s.size ≤ 100000) (L : Nat) (hZ : Ms s 0 false [((0 : Int), (91 : Int)), ((L : Int), (93 : Int))]) (w : World) :
    Calls Tryz.prog 41 #[.string s] w fun e w' => ∃ g c, e = .returned (.slice (some ⟨g, 0, none⟩) 4 c) ∧ Four w' g ∧ Below w.heap.size w w' := by
  obtain ⟨i0, hi, hz0, hz1, hz2⟩ := info_parts info4
  refine (callsIn_wide (n := 5)).1 ?_
  refine callsIn_of_wp_marks Tryz.func41 rfl trivial ?_ rfl
  simp only [Tryz.ntmps41, List.size_toArray, List.length_cons, List.length_nil, Nat.reduceAdd, Nat.reduceSub, Array.replicate_succ, Array.replicate_zero, List.push_toArray, List.append_toArray, List.nil_append, List.cons_append]
  gi_wp2_with (refine ⟨trivial, ?_⟩; gi_at_call 72; refine (each_any _ s _).mono ?_; rintro e w' ⟨rfl, rfl⟩)
  have bO := Boxed.new w 94 (.slice none 0 0)
  have bN := Boxed.new (w.alloc (.cells #[.slice none 0 0] 94)) 9 (.string s)
  rw [World.size_alloc] at bN
  have hB0 : Below w.heap.size w ((w.alloc (.cells #[.slice none 0 0] 94)).alloc (.cells #[.string s] 9)) := ((Below.refl _ w).alloc (Nat.le_refl _) _).alloc (by simp) _
  refine wpIn_rangeFunc_ownF rfl (by omega) (gf := 117) (lb := #[.pointer (some ⟨w.heap.size + 1, 0, none⟩)]) rfl trivial (enters_of Tryz.func117 (by kernel_rfl) rfl)
    (each_stops _ (by omega) (w.heap.size + 1) s hs _ hZ _ (by simp) bN.cell) Tx.KpB_t Tx.KpB_b (Below.refl _ _) (fun _ => rfl)
    (fun pre W => PrI w s pre W ∧ Below w.heap.size w W)
    (fun _ _ _ => False)
    (OwnFrom.and (Own.from (fun p A B row hs hg hr => ⟨holdsRow_own w.heap.size w.heap.size 94 4 1 (fun pre : List (Int × Int) => 2 * pre.length) (fun pre => pre.flatMap fun x => prs x.2) (fun _ _ => True) p A B row hs.1 hg hr, boxed_own hs.2 hg hr⟩) _) (ownFrom_below (Nat.le_refl _) (by simp; omega)))
    (fun _ _ _ _ _ hs _ _ => hs)
    ⟨⟨⟨_, bO.alloc _, World.ownsRow_nil _ _ _ _, trivial⟩, bN⟩, hB0⟩
    (fun x => { tmps := #[.string s, undef, .slice none 0 0, .pointer (some ⟨w.heap.size, 0, none⟩), undef, .int .u8 x.2, .string s, .func (.func 117) #[] #[.pointer (some ⟨w.heap.size + 1, 0, none⟩)], .int .i64 x.1, .int .u8 x.2, undef, undef, undef, undef, undef, undef, undef, undef, undef, undef, undef, undef, undef, undef, undef, undef, undef], defers := [] }) ?assign ?body ?done ?stop
  case assign =>
    intro l x W K hK
    gi_wp2
    exact hK
  case body =>
    rintro l pre ⟨x1, x2⟩ W ⟨⟨⟨v, hv, hrow, -⟩, hN⟩, hB⟩ hlt
    have hc := hv.cell
    have hpl : pre.length < 2 := hlt
    have key : ∀ (a b : Bool) (hp : prs x2 = [.bool a, .bool b]) (v' : Value) (w1 : World), w1.ownsRow w.heap.size 4 1 v' (2 * pre.length + 2) ((pre.flatMap fun x => prs x.2) ++ [.bool a, .bool b]) → (W.alloc (.cells #[.bool a, .bool b] 4)).grownBy w1 v.ownBlock → ∃ g cap, v' = .slice (some ⟨g, 0, none⟩) (2 * pre.length + 2) cap ∧ w1.cell? ⟨w.heap.size, 0, none⟩ = some v ∧ w1.frozen? ⟨w.heap.size, 0, none⟩ = false ∧ Hid (ownPostK (Tx.KpB (w.heap.size + 1)) (fun pre W => PrI w s pre W ∧ Below w.heap.size w W) (fun _ _ _ => False) (pre ++ [(x1, x2)]) W .normal { tmps := #[], defers := [] } (w1.setCell ⟨w.heap.size, 0, none⟩ v')) := by
      intro a b hp v' w1 hown' hgrow
      obtain ⟨g', cap', rfl⟩ := ownsRow_succ hown'
      have hN2 := Boxed.other ((hN.alloc _).kept hgrow (hN.not_row (by decide) hrow)) (show w.heap.size + 1 ≠ w.heap.size by omega) (.slice (some ⟨g', 0, none⟩) (2 * pre.length + 1 + 1) cap')
      obtain ⟨hv1, hv2, hr2, hk2, hb2⟩ := hv.appended (by decide) hrow hB.size (Nat.le_refl _) hown' hgrow
      refine ⟨g', cap', rfl, hv1.cell, hv1.frozen, Lib.hid ⟨hk2, Boxed.kp hN hN2, ⟨⟨⟨_, hv2, ?_, trivial⟩, hN2⟩, hB.trans hb2⟩⟩⟩
      simpa [hp, Nat.mul_add] using hr2
    by_cases h91 : x2 = 91
    · subst h91
      have key' := key true true (by first | rfl | simp [prs])
      clear key
      gi_wp2_with (gi_at_builtin; refine wpListIn_append_own _ rfl _ _ 94 rfl w.heap.size 4 i0 (.bool false) 1 1 Tryz.underlying94 hi hz0 hz1 hz2 rfl (by decide) _ _ _ rfl (hrow.alloc _) ⟨W.heap.size, 0, none⟩ 2 2 [.bool true, .bool true] rfl rfl (World.news_of_block (heap_alloc_new _ _)) (by simp [Value.oneCell']) (by unfold maxLen; omega) (by omega) (by have := hB.size; simp; omega) ?_; intro v' w1 hown' hgrow _; obtain ⟨g', cap', rfl, hc1, hf1, HK⟩ := key' v' w1 hown' hgrow)
      exact HK.out
    by_cases h123 : x2 = 123
    · subst h123
      have key' := key true true (by first | rfl | simp [prs])
      clear key
      gi_wp2_with (gi_at_builtin; refine wpListIn_append_own _ rfl _ _ 94 rfl w.heap.size 4 i0 (.bool false) 1 1 Tryz.underlying94 hi hz0 hz1 hz2 rfl (by decide) _ _ _ rfl (hrow.alloc _) ⟨W.heap.size, 0, none⟩ 2 2 [.bool true, .bool true] rfl rfl (World.news_of_block (heap_alloc_new _ _)) (by simp [Value.oneCell']) (by unfold maxLen; omega) (by omega) (by have := hB.size; simp; omega) ?_; intro v' w1 hown' hgrow _; obtain ⟨g', cap', rfl, hc1, hf1, HK⟩ := key' v' w1 hown' hgrow)
      exact HK.out
    by_cases h93 : x2 = 93
    · subst h93
      have key' := key false false (by first | rfl | simp [prs])
      clear key
      gi_wp2_with (gi_at_builtin; refine wpListIn_append_own _ rfl _ _ 94 rfl w.heap.size 4 i0 (.bool false) 1 1 Tryz.underlying94 hi hz0 hz1 hz2 rfl (by decide) _ _ _ rfl (hrow.alloc _) ⟨W.heap.size, 0, none⟩ 2 2 [.bool false, .bool false] rfl rfl (World.news_of_block (heap_alloc_new _ _)) (by simp [Value.oneCell']) (by unfold maxLen; omega) (by omega) (by have := hB.size; simp; omega) ?_; intro v' w1 hown' hgrow _; obtain ⟨g', cap', rfl, hc1, hf1, HK⟩ := key' v' w1 hown' hgrow)
      exact HK.out
    by_cases h125 : x2 = 125
    · subst h125
      have key' := key false false (by first | rfl | simp [prs])
      clear key
      gi_wp2_with (gi_at_builtin; refine wpListIn_append_own _ rfl _ _ 94 rfl w.heap.size 4 i0 (.bool false) 1 1 Tryz.underlying94 hi hz0 hz1 hz2 rfl (by decide) _ _ _ rfl (hrow.alloc _) ⟨W.heap.size, 0, none⟩ 2 2 [.bool false, .bool false] rfl rfl (World.news_of_block (heap_alloc_new _ _)) (by simp [Value.oneCell']) (by unfold maxLen; omega) (by omega) (by have := hB.size; simp; omega) ?_; intro v' w1 hown' hgrow _; obtain ⟨g', cap', rfl, hc1, hf1, HK⟩ := key' v' w1 hown' hgrow)
      exact HK.out
    have b91 : (x2 == 91) = false := by rw [beq_eq_false_iff_ne]; exact h91
    have b123 : (x2 == 123) = false := by rw [beq_eq_false_iff_ne]; exact h123
    have b93 : (x2 == 93) = false := by rw [beq_eq_false_iff_ne]; exact h93
    have b125 : (x2 == 125) = false := by rw [beq_eq_false_iff_ne]; exact h125
    have key' := key false true (by unfold prs; rw [if_neg (by omega), if_neg (by omega)])
    clear key h91 h123 h93 h125
    gi_wp2_with (gi_at_builtin; refine wpListIn_append_own _ rfl _ _ 94 rfl w.heap.size 4 i0 (.bool false) 1 1 Tryz.underlying94 hi hz0 hz1 hz2 rfl (by decide) _ _ _ rfl (hrow.alloc _) ⟨W.heap.size, 0, none⟩ 2 2 [.bool false, .bool true] rfl rfl (World.news_of_block (heap_alloc_new _ _)) (by simp [Value.oneCell']) (by unfold maxLen; omega) (by omega) (by have := hB.size; simp; omega) ?_; intro v' w1 hown' hgrow _; obtain ⟨g', cap', rfl, hc1, hf1, HK⟩ := key' v' w1 hown' hgrow)
    exact HK.out
  case done =>
    rintro D ys W hD rfl ⟨⟨⟨v, hv, hrow, -⟩, hN⟩, hB⟩ hK
    obtain ⟨g, cap, rfl⟩ := ownsRow_succ (k := 3) hrow
    have hc := hv.cell
    have hr := ownsRow_putObj hrow (.deferred none) hK rfl
    have hb := hB.trans (belowK_b (w := w) (Nat.le_refl _) W D _ (.deferred none) (by simp at hD; omega) hK rfl rfl)
    have hA : Acc w _ 4 1 (.slice (some ⟨g, 0, none⟩) (3 + 1) cap) (3 + 1) _ := ⟨hr, hb⟩
    have hrw := hA.row
    have HT : Hid (Four _ g) := Lib.hid ⟨hrw.2.1, hrw.2.2 0 _ rfl, hrw.2.2 1 _ rfl, hrw.2.2 2 _ rfl, hrw.2.2 3 _ rfl⟩
    clear hrw hA hr
    gi_wp2
    refine ⟨by simp, .inl ⟨_, _, rfl, run_takeDeferred hK, ?_⟩⟩
    exact ⟨_, results_tmp rfl _ _ _, g, cap, rfl, HT.out, hb⟩
  case stop =>
    rintro D c pre W _ _ h _
    exact h.elim
end Go.Proofs.YtjelneeeijjpiaaGreatDoor
end
