/- TopText: walks and plain laws, part 17: lemmas on what the functions that the law comes to compute. -/
import Derived.Test.YtjelneeeijjpiaaGreatDoorG14
import Derived.Test.YtjelneeeijjpiaaGreatDoorG15
import Derived.Test.YtjelneeeijjpiaaGreatDoorG12
import Derived.Test.YtjelneeeijjpiaaGreatDoorG16
import Derived.Maps.Own
import Derived.MapKept
set_option linter.unusedVariables false
set_option linter.unusedSimpArgs false
section
set_option maxRecDepth 100000
namespace Go.Proofs.YtjelneeeijjpiaaGreatDoor
open Go.RowKit Go.Shelf
attribute [local go_sem] Oper.semAt_some
set_option maxHeartbeats 1000000 in
theorem lin_any (n : Nat) (s : ByteArray) (w : World) :
    CallsIn Fence.wide n Tryz.prog 43 #[.string s] w fun e w' => e = .returned (.func (.func 85) #[] #[.pointer (some ⟨w.heap.size, 0, none⟩)]) ∧ w' = w.alloc (.cells #[.string s] 9) := by
  refine callsIn_of_wp Tryz.func43 rfl trivial ?_ rfl
  simp only [Tryz.ntmps43, List.size_toArray, List.length_cons, List.length_nil, Nat.reduceAdd, Nat.reduceSub, Array.replicate_succ, Array.replicate_zero, List.push_toArray, List.append_toArray, List.nil_append, List.cons_append]
  gi_wp2
  go_ret
  exact ⟨rfl, rfl⟩
theorem ixb_10 (s : ByteArray) (h : s.data.toList.contains 10 = false) (w : World) : Calls Tryz.prog 86 #[.string s, .int .u8 10] w fun e w' => e = .returned (.int .i64 (-1)) ∧ w = w' := ixb_no 10 s h w
set_option maxRecDepth 100000 in
set_option maxHeartbeats 2000000 in
theorem lin1_in (n : Nat) (hn : 1 ≤ n) (l Bn : Nat) (s : ByteArray) (hs : s.size ≤ 100000) (hpos : 0 < s.size) (h10 : s.data.toList.contains 10 = false) (J Jx : List (Int × Int) → World → Prop)
    (hY : ∀ pre x W, J pre W → pre.length < 1 → YieldAt Fence.wide (n - 1) Tryz.prog l #[.agg #[.int .i64 x.1, .int .i64 x.2]] W fun e W' =>
      (e = .returned (.bool true) ∧ J (pre ++ [x]) W' ∧ Tx.KpB Bn W W') ∨ (e = .returned (.bool false) ∧ Jx (pre ++ [x]) W'))
    (W : World) (hBn : W.cell? ⟨Bn, 0, none⟩ = some (.string s)) (h0 : J [] W) :
    CallsIn Fence.wide n Tryz.prog 85 #[.func (.yield l) #[] #[], .pointer (some ⟨Bn, 0, none⟩)] W fun e W' => (∃ v, e = .returned v) ∧
      ((∃ ys, ys = [((0 : Int), (s.size : Int))] ∧ J ys W') ∨ (∃ pre, pre <+: [((0 : Int), (s.size : Int))] ∧ Jx pre W')) := by
  have hki : (0 : Int) < (s.size : Int) := by omega
  have hI := ixb_10 s h10
  have HX := Lib.hid h10
  clear h10
  obtain ⟨fn, tmps, assign, body, hy, hR⟩ := hY [] (0, (s.size : Int)) W h0 (by simp)
  dsimp only at hy
  refine callsIn_of_wp Tryz.func85 rfl trivial ?_ rfl
  simp only [Tryz.ntmps85, List.size_toArray, List.length_cons, List.length_nil, Nat.reduceAdd, Nat.reduceSub, Array.replicate_succ, Array.replicate_zero, List.push_toArray, List.append_toArray, List.nil_append, List.cons_append]
  gi_wp2
  refine wpIn_loop_rounds 2 ?_
  rw [roundsIn_succ]
  gi_wp2_with (first | (refine ⟨trivial, ?_⟩; gi_at_call 86; refine (callsIn_wide.2 (hI _)).mono ?_; rintro e w9 ⟨rfl, rfl⟩))
  refine hR.mono ?_
  rintro e W3 (⟨rfl, hJ3, hk3⟩ | ⟨rfl, hJx3⟩)
  · have hB3 := hk3 _ hBn
    gi_wp2
    rw [roundsIn_succ]
    gi_wp2
    go_end0
    exact ⟨⟨_, rfl⟩, .inl ⟨_, rfl, hJ3⟩⟩
  · gi_wp2
    refine bodyPost_ret (results_none rfl _ _ _) rfl ?_
    exact ⟨⟨_, rfl⟩, .inr ⟨_, List.prefix_refl _, hJx3⟩⟩
theorem lin_stops (n : Nat) (hn : 1 ≤ n) (Bn : Nat) (s : ByteArray) (hs : s.size ≤ 100000) (hpos : 0 < s.size) (h10 : s.data.toList.contains 10 = false) (w : World) (hBn : Bn < w.heap.size) (hc : w.cell? ⟨Bn, 0, none⟩ = some (.string s)) :
    SeqStopsK Fence.wide n Tryz.prog 85 #[.pointer (some ⟨Bn, 0, none⟩)] (fun x : Int × Int => #[Value.agg #[.int .i64 x.1, .int .i64 x.2]]) (Tx.KpB Bn) (fun ys => ys = [((0 : Int), (s.size : Int))]) (fun pre => pre <+: [((0 : Int), (s.size : Int))]) 1 w := fun l J Jx W hW _ _ hY h0 =>
  lin1_in n hn l Bn s hs hpos h10 J Jx hY W ((hW.cell (p := ⟨Bn, 0, none⟩) hBn).trans hc) h0
theorem cell_kept_l {W : World} {a : Addr} {v : Value} (h : W.cell? a = some v) (D : Nat) (hK : W.heap[D]? = some (.deferred (some []))) : (W.putObj D (.deferred none)).cell? a = some v :=
  cell_kept h (grownBy_putObj' _ D (.deferred none)) (fun r e => by cases e; exact ⟨_, hK, rfl⟩)
theorem info61 : (Tryz.prog.info? 61).map (fun i => (i.zero, i.size, i.bytes)) = some (some (.agg #[.int .i64 0, .int .i64 0]), 2, 16) := by kernel_rfl
def LnI (w : World) (s : ByteArray) (pre : List (Int × Int)) (W : World) : Prop := (∃ v, Boxed W (w.heap.size + 2) 68 v ∧ W.ownsRow w.heap.size 61 2 v pre.length (pre.flatMap fun x => [Value.int .i64 x.1, Value.int .i64 x.2]) ∧ (pre = [] → v = .slice none 0 0)) ∧ Boxed W w.heap.size 68 (.slice none 0 0) ∧ Boxed W (w.heap.size + 1) 37 (.int .i64 0) ∧ Boxed W (w.heap.size + 3) 9 (.string s)
set_option maxRecDepth 100000 in
set_option maxHeartbeats 4000000 in
theorem lines_1 (s : ByteArray) (hs : s.size ≤ 100000) (hpos : 0 < s.size) (h10 : s.data.toList.contains 10 = false) (w : World) :
    Calls Tryz.prog 22 #[.string s] w fun e w' => ∃ g c, e = .returned (.tuple #[.slice (some ⟨g, 0, none⟩) 1 c, .int .i64 0]) ∧ Two w' g s.size ∧ Below w.heap.size w w' := by
  have hsz : ¬ (1048576 : Int) < (s.size : Int) := by omega
  obtain ⟨i0, hi, hz0, hz1, hz2⟩ := info_parts info61
  have H10 := Lib.hid h10
  clear h10
  refine (callsIn_wide (n := 5)).1 ?_
  refine callsIn_of_wp_marks Tryz.func22 rfl trivial ?_ rfl
  simp only [Tryz.ntmps22, List.size_toArray, List.length_cons, List.length_nil, Nat.reduceAdd, Nat.reduceSub, Array.replicate_succ, Array.replicate_zero, List.push_toArray, List.append_toArray, List.nil_append, List.cons_append]
  gi_wp2_with (refine ⟨trivial, ?_⟩; gi_at_call 43; refine (lin_any _ s _).mono ?_; rintro e w' ⟨rfl, rfl⟩)
  have b0 := (((Boxed.new w 68 (.slice none 0 0)).alloc (.cells #[.int .i64 0] 37)).alloc (.cells #[.slice none 0 0] 68)).alloc (.cells #[.string s] 9)
  have b1 := ((Boxed.new (w.alloc (.cells #[.slice none 0 0] 68)) 37 (.int .i64 0)).alloc (.cells #[.slice none 0 0] 68)).alloc (.cells #[.string s] 9)
  have b2 := (Boxed.new ((w.alloc (.cells #[.slice none 0 0] 68)).alloc (.cells #[.int .i64 0] 37)) 68 (.slice none 0 0)).alloc (.cells #[.string s] 9)
  have b3 := Boxed.new (((w.alloc (.cells #[.slice none 0 0] 68)).alloc (.cells #[.int .i64 0] 37)).alloc (.cells #[.slice none 0 0] 68)) 9 (.string s)
  simp only [World.size_alloc] at b1 b2 b3
  have hB0 : Below w.heap.size w ((((w.alloc (.cells #[.slice none 0 0] 68)).alloc (.cells #[.int .i64 0] 37)).alloc (.cells #[.slice none 0 0] 68)).alloc (.cells #[.string s] 9)) := ((((Below.refl _ w).alloc (Nat.le_refl _) _).alloc (by simp) _).alloc (by simp; omega) _).alloc (by simp; omega) _
  refine wpIn_rangeFunc_ownH rfl (by omega) (gf := 85) (lb := #[.pointer (some ⟨w.heap.size + 1 + 1 + 1, 0, none⟩)]) rfl trivial (enters_of Tryz.func85 (by kernel_rfl) rfl)
    (lin_stops _ (by omega) (w.heap.size + 3) s hs hpos H10.out _ (by simp) b3.cell) Tx.KpB_t Tx.KpB_b (Below.refl _ _) (fun _ => rfl)
    (fun pre W => LnI w s pre W ∧ Below w.heap.size w W)
    (fun _ _ _ => False)
    (OwnFrom.and (Own.from (fun p A B row hs hg hr => ⟨holdsRow_own w.heap.size (w.heap.size + 2) 68 61 2 (fun pre : List (Int × Int) => pre.length) (fun pre => pre.flatMap fun x => [Value.int .i64 x.1, Value.int .i64 x.2]) (fun pre v => pre = [] → v = .slice none 0 0) p A B row hs.1 hg hr, boxed_own hs.2.1 hg hr, boxed_own hs.2.2.1 hg hr, boxed_own hs.2.2.2 hg hr⟩) _) (ownFrom_below (Nat.le_refl _) (by simp; omega)))
    (fun _ _ _ _ _ hs _ _ => hs)
    ⟨⟨⟨_, b2, World.ownsRow_nil _ _ _ _, fun _ => rfl⟩, b0, b1, b3⟩, hB0⟩
    (fun x a' W => ∃ b, w.heap.size ≤ b ∧ W.heap[b]? = some (.cells #[.int .i64 x.1, .int .i64 x.2] 61 (0, 0)) ∧ a' = { tmps := #[.string s, undef, .pointer (some ⟨w.heap.size, 0, none⟩), .pointer (some ⟨w.heap.size + 1, 0, none⟩), .pointer (some ⟨w.heap.size + 1 + 1, 0, none⟩), .pointer (some ⟨b, 0, none⟩), .string s, .int .i64 (s.size : Nat), .bool false, .string s, .func (.func 85) #[] #[.pointer (some ⟨w.heap.size + 1 + 1 + 1, 0, none⟩)], .agg #[.int .i64 x.1, .int .i64 x.2], undef, undef, undef, undef, undef, undef, undef, undef], defers := [] })
    (fun x a' => Own.from (fun p A B row hs hg hr => by
      obtain ⟨b, h1, h2, h3⟩ := hs
      refine ⟨b, h1, (hg.block b (Array.getElem?_eq_some_iff.1 h2).1 (fun e' => ?_)).trans h2, h3⟩
      obtain ⟨o, ho, hc⟩ := hr b e'.symm
      rw [h2] at ho; cases ho; cases hc) _)
    ?assign ?body ?done ?stop
  case assign =>
    rintro l pre x W K ⟨⟨⟨v, hv, hrow, hnil⟩, h0, h1, hN⟩, hB⟩ hK
    gi_wp2
    exact hK _ _ ((KeepsOthers.alloc W _).from _) (Boxed.kp hN (hN.alloc _)) ⟨⟨⟨v, hv.alloc _, hrow.alloc _, hnil⟩, h0.alloc _, h1.alloc _, hN.alloc _⟩, hB.alloc hB.size _⟩ ⟨W.heap.size, hB.size, World.alloc_heap_new W _, rfl⟩
  case body =>
    rintro l pre ⟨x1, x2⟩ a' W hl hlr ⟨⟨⟨v, hv, hrow, hnil⟩, h0, h1, hN⟩, hB⟩ ⟨b, hb, hbk, rfl⟩ hlt
    obtain rfl : pre = [] := List.eq_nil_of_length_eq_zero (by omega)
    obtain rfl := hnil rfl
    have hc : W.cell? ⟨w.heap.size + 1 + 1, 0, none⟩ = some (.slice none 0 0) := hv.cell
    have cb0 : W.cell? ⟨b, 0, none⟩ = some (.int .i64 x1) := by simp [World.cell?, hbk]
    have cb1 : W.cell? ⟨b, 1, none⟩ = some (.int .i64 x2) := by simp [World.cell?, hbk]
    have blt : b < W.heap.size := (Array.getElem?_eq_some_iff.1 hbk).1
    gi_wp2_with (gi_at_builtin; refine wpListIn_append_own _ rfl _ _ 68 rfl w.heap.size 61 i0 (.agg #[.int .i64 0, .int .i64 0]) 2 16 Tryz.underlying68 hi hz0 hz1 hz2 rfl (by decide) _ _ _ rfl (hrow.alloc _) ⟨W.heap.size, 0, none⟩ 1 1 [.int .i64 x1, .int .i64 x2] rfl rfl (World.news_of_block (heap_alloc_new _ _)) (by simp [Value.oneCell']) (by unfold maxLen; simp) (by simp) (by have := hB.size; simp; omega) ?_; intro v' w1 hown' hgrow _; obtain ⟨g', cap', rfl⟩ := ownsRow_succ hown'; have h0' := Boxed.other ((h0.alloc _).kept hgrow (h0.not_row (by decide) hrow)) (show w.heap.size ≠ w.heap.size + 2 by omega) (.slice (some ⟨g', 0, none⟩) 1 cap'); have h1' := Boxed.other ((h1.alloc _).kept hgrow (h1.not_row (by decide) hrow)) (show w.heap.size + 1 ≠ w.heap.size + 2 by omega) (.slice (some ⟨g', 0, none⟩) 1 cap'); have hN' := Boxed.other ((hN.alloc _).kept hgrow (hN.not_row (by decide) hrow)) (show w.heap.size + 3 ≠ w.heap.size + 2 by omega) (.slice (some ⟨g', 0, none⟩) 1 cap'); obtain ⟨hv1, hv2, hr2, hk2, hb2⟩ := hv.appended (by decide) hrow hB.size (show w.heap.size ≤ w.heap.size + 2 by omega) hown' hgrow; have hc1 : w1.cell? ⟨w.heap.size + 1 + 1, 0, none⟩ = some (.slice none 0 0) := hv1.cell; have hf1 : w1.frozen? ⟨w.heap.size + 1 + 1, 0, none⟩ = false := hv1.frozen)
    exact ⟨hk2.from _, Boxed.kp hN hN', ⟨⟨_, hv2, hr2, fun h => absurd h (by simp)⟩, h0', h1', hN'⟩, hB.trans hb2⟩
  case done =>
    rintro D ys W hD rfl ⟨⟨⟨v, hv, hrow, -⟩, h0, h1, hN⟩, hB⟩ hK
    obtain ⟨g, cap, rfl⟩ := ownsRow_succ (k := 0) hrow
    have hr1 := hrow.kept (grownBy_setCell' W w.heap.size (.slice (some ⟨g, 0, none⟩) (0 + 1) cap)) (.inr (h0.not_row (by decide) hrow).symm)
    have h1' := Boxed.other h1 (show w.heap.size + 1 ≠ w.heap.size by omega) (.slice (some ⟨g, 0, none⟩) (0 + 1) cap)
    have hr2 := hr1.kept (grownBy_setCell' _ (w.heap.size + 1) (.int .i64 0)) (.inr (h1'.not_row (by decide) hr1).symm)
    have hK' := ((KeepsOthers.setCell W ⟨w.heap.size, 0, none⟩ (.slice (some ⟨g, 0, none⟩) (0 + 1) cap)).trans (KeepsOthers.setCell _ ⟨w.heap.size + 1, 0, none⟩ (.int .i64 0))).same D _ hK rfl
    have hBf := ((hB.setCell (p := ⟨w.heap.size, 0, none⟩) (Nat.le_refl _) (.slice (some ⟨g, 0, none⟩) (0 + 1) cap)).setCell (p := ⟨w.heap.size + 1, 0, none⟩) (Nat.le_succ _) (.int .i64 0)).trans (belowK_b (w := w) (Nat.le_refl _) _ D _ (.deferred none) (by simp at hD; omega) hK' rfl rfl)
    have hr3 := ownsRow_putObj hr2 (.deferred none) hK' rfl
    have y0 := Boxed.other (Boxed.set (.slice (some ⟨g, 0, none⟩) (0 + 1) cap) h0) (show w.heap.size ≠ w.heap.size + 1 by omega) (.int .i64 0)
    have y1 := Boxed.set (.int .i64 0) h1'
    have hc5 := cell_kept_l y0.cell D hK'
    have hc6 := cell_kept_l y1.cell D hK'
    have hA : Acc w _ 61 2 (.slice (some ⟨g, 0, none⟩) (0 + 1) cap) (0 + 1) _ := ⟨hr3, hBf⟩
    have hrw := hA.row
    have HT : Hid (Two _ g s.size) := Lib.hid ⟨hrw.2.1, hrw.2.2 0 _ rfl, hrw.2.2 1 _ rfl⟩
    have HB := Lib.hid hBf
    have hc : W.cell? ⟨w.heap.size + 1 + 1, 0, none⟩ = some (.slice (some ⟨g, 0, none⟩) 1 cap) := hv.cell
    have hc0 := h0.cell
    have hc1 := h1.cell
    have hf0 := h0.frozen
    have hf1 := h1.frozen
    have lt0 := h0.lt
    have lt1 := h1.lt
    clear hrw hA hr1 hr2 hr3 y0 y1 h1'
    gi_wp2
    refine ⟨by simp, .inl ⟨_, _, rfl, run_takeDeferred hK', ?_⟩⟩
    refine ⟨.tuple #[.slice (some ⟨g, 0, none⟩) 1 cap, .int .i64 0], ?_, g, cap, rfl, HT.out, HB.out⟩
    simp [results, Tryz.f22, go_sem, hc5, hc6]
  case stop =>
    rintro D c pre W _ _ h _
    exact h.elim
end Go.Proofs.YtjelneeeijjpiaaGreatDoor
end
section
namespace Go.Proofs.YtjelneeeijjpiaaGreatDoor
open Go.RowKit
structure Ss (file : ByteArray) (deep : Int) (lr lc xr xc : Nat) (g : Nat) (W : World) : Prop where
  lt : g < W.heap.size
  c0 : W.cell? ⟨g, 0, none⟩ = some (.string file)
  c1 : W.cell? ⟨g, 1, none⟩ = some (.int .i64 deep)
  c2 : W.cell? ⟨g, 2, none⟩ = some (.slice (some ⟨lr, 0, none⟩) 1 lc)
  c3 : W.cell? ⟨g, 3, none⟩ = some (.slice (some ⟨xr, 0, none⟩) 1 xc)
theorem Ss.of {W W' : World} {g : Nat} {file : ByteArray} {deep : Int} {lr lc xr xc : Nat} (h : Ss file deep lr lc xr xc g W) (hs : W.heap.size ≤ W'.heap.size) (hc : ∀ c, W'.cell? ⟨g, c, none⟩ = W.cell? ⟨g, c, none⟩) (hf : ∀ c, W'.frozen? ⟨g, c, none⟩ = W.frozen? ⟨g, c, none⟩) : Ss file deep lr lc xr xc g W' := ⟨Nat.lt_of_lt_of_le h.lt hs, (hc 0).trans h.c0, (hc 1).trans h.c1, (hc 2).trans h.c2, (hc 3).trans h.c3⟩
theorem Ss.below {W W' : World} {g : Nat} {file : ByteArray} {deep : Int} {lr lc xr xc : Nat} (h : Ss file deep lr lc xr xc g W) (hb : Below W.heap.size W W') : Ss file deep lr lc xr xc g W' := h.of hb.size (fun c => hb.cell (p := ⟨g, c, none⟩) h.lt) (fun c => hb.frozen (p := ⟨g, c, none⟩) h.lt)
theorem Ss.set {W : World} {g : Nat} {file : ByteArray} {deep : Int} {lr lc xr xc : Nat} (h : Ss file deep lr lc xr xc g W) {a : Addr} (hne : a.block ≠ g) (v : Value) : Ss file deep lr lc xr xc g (W.setCell a v) := h.of (by simp [World.setCell]) (fun c => World.cell?_setCell_other _ _ _ _ (by intro e; exact hne (by rw [e]))) (fun c => World.frozen?_setCell _ _ _ _)
structure Lr (n : Nat) (at_ : Int) (g : Nat) (W : World) : Prop where
  lt : g < W.heap.size
  c0 : W.cell? ⟨g, 0, none⟩ = some (.int .i64 0)
  c1 : W.cell? ⟨g, 1, none⟩ = some (.int .i64 n)
  c2 : W.cell? ⟨g, 2, none⟩ = some (.int .i64 1)
  c3 : W.cell? ⟨g, 3, none⟩ = some (.int .i64 at_)
theorem Lr.of {W W' : World} {g : Nat} {n : Nat} {at_ : Int} (h : Lr n at_ g W) (hs : W.heap.size ≤ W'.heap.size) (hc : ∀ c, W'.cell? ⟨g, c, none⟩ = W.cell? ⟨g, c, none⟩) (hf : ∀ c, W'.frozen? ⟨g, c, none⟩ = W.frozen? ⟨g, c, none⟩) : Lr n at_ g W' := ⟨Nat.lt_of_lt_of_le h.lt hs, (hc 0).trans h.c0, (hc 1).trans h.c1, (hc 2).trans h.c2, (hc 3).trans h.c3⟩
theorem Lr.below {W W' : World} {g : Nat} {n : Nat} {at_ : Int} (h : Lr n at_ g W) (hb : Below W.heap.size W W') : Lr n at_ g W' := h.of hb.size (fun c => hb.cell (p := ⟨g, c, none⟩) h.lt) (fun c => hb.frozen (p := ⟨g, c, none⟩) h.lt)
theorem Lr.set {W : World} {g : Nat} {n : Nat} {at_ : Int} (h : Lr n at_ g W) {a : Addr} (hne : a.block ≠ g) (v : Value) : Lr n at_ g (W.setCell a v) := h.of (by simp [World.setCell]) (fun c => World.cell?_setCell_other _ _ _ _ (by intro e; exact hne (by rw [e]))) (fun c => World.frozen?_setCell _ _ _ _)
structure Xr (p : Nat) (g : Nat) (W : World) : Prop where
  lt : g < W.heap.size
  c0 : W.cell? ⟨g, 0, none⟩ = some (.pointer (some ⟨p, 0, none⟩))
theorem Xr.of {W W' : World} {g : Nat} {p : Nat} (h : Xr p g W) (hs : W.heap.size ≤ W'.heap.size) (hc : ∀ c, W'.cell? ⟨g, c, none⟩ = W.cell? ⟨g, c, none⟩) (hf : ∀ c, W'.frozen? ⟨g, c, none⟩ = W.frozen? ⟨g, c, none⟩) : Xr p g W' := ⟨Nat.lt_of_lt_of_le h.lt hs, (hc 0).trans h.c0⟩
theorem Xr.below {W W' : World} {g : Nat} {p : Nat} (h : Xr p g W) (hb : Below W.heap.size W W') : Xr p g W' := h.of hb.size (fun c => hb.cell (p := ⟨g, c, none⟩) h.lt) (fun c => hb.frozen (p := ⟨g, c, none⟩) h.lt)
theorem Xr.set {W : World} {g : Nat} {p : Nat} (h : Xr p g W) {a : Addr} (hne : a.block ≠ g) (v : Value) : Xr p g (W.setCell a v) := h.of (by simp [World.setCell]) (fun c => World.cell?_setCell_other _ _ _ _ (by intro e; exact hne (by rw [e]))) (fun c => World.frozen?_setCell _ _ _ _)
def Se (w : World) (s p n : Nat) : Prop := ∃ file deep lr lc xr xc at_, Ss file deep lr lc xr xc s w ∧ Lr n at_ lr w ∧ Xr p xr w
theorem Se.below {w w' : World} {s p n : Nat} (h : Se w s p n) (hb : Below w.heap.size w w') : Se w' s p n := by
  obtain ⟨file, deep, lr, lc, xr, xc, at_, h1, h2, h3⟩ := h
  exact ⟨file, deep, lr, lc, xr, xc, at_, h1.below hb, h2.below hb, h3.below hb⟩
theorem info125 : (Tryz.prog.info? 125).map (fun i => (i.zero, i.size, i.bytes)) = some (some (.agg #[.string ⟨#[]⟩, .int .i64 0, .int .i64 0, .int .i64 0, .string ⟨#[]⟩]), 5, 56) := by kernel_rfl
end Go.Proofs.YtjelneeeijjpiaaGreatDoor
end
section
namespace Go.Proofs.YtjelneeeijjpiaaGreatDoor
open Go.RowKit
theorem info63 : (Tryz.prog.info? 63).map (fun i => (i.zero, i.size, i.bytes)) = some (some (.agg #[.int .i64 0, .int .i64 0, .int .i64 0, .int .i64 0]), 4, 32) := by kernel_rfl
theorem info64 : (Tryz.prog.info? 64).map (fun i => (i.zero, i.size, i.bytes)) = some (some (.pointer none), 1, 8) := by kernel_rfl
set_option maxRecDepth 100000 in
set_option maxHeartbeats 2000000 in
theorem records_1 (T : ByteArray) (n L : Nat) (c : Int) (hT : ScT T n L c) (h10 : T.data.toList.contains 10 = false) (dp : Nat) (hd : 1 ≤ dp) (hd2 : dp ≤ 4096) (w : World) : Calls Tryz.prog 19 #[.string T, .int .i64 (dp : Nat)] w fun e w' => ∃ g cc, e = .returned (.tuple #[.slice (some ⟨g, 0, none⟩) 1 cc, .int .i64 0]) ∧ Lr n 1 g w' ∧ Below w.heap.size w w' := by
  have hn := hT.hn
  subst hn
  have h1 := hT.h1
  have hs : T.size ≤ 100000 := by omega
  have hpos := hT.k0
  have H10 := Lib.hid h10
  clear h10
  have hall : ∀ W : World, (Instr.slice 9 (.string T) (some (.int .i64 0)) (some (.int .i64 (T.size : Nat))) none).run Tryz.prog W = .ok (.string T) W := fun W => slice_eq T T 0 T.size (by omega) (Nat.le_refl _) (ext_all T) W
  have e1 : ¬ (dp : Int) < 1 := by omega
  have e2 : ¬ (4096 : Int) < (dp : Int) := by omega
  obtain ⟨i0, hi0, hz0, hs0, hb0⟩ := info_parts info63
  go_enter Tryz.func19, Tryz.ntmps19
  go_wp2_with fail
  refine (lines_1 T hs hpos H10.out _).mono ?_; rintro e w1 ⟨g, cc, rfl, hG, Z1⟩
  obtain ⟨gl, g0, g1⟩ := id hG
  have gl1 : g < w1.heap.size + 1 := by omega
  go_wp2_with (first | (refine wp_loop_unr 3 ?_; refine Unr.step ?_; intro U hU) | (refine Unr.step ?_; intro U hU))
  refine (validate_1 T _ L c hT dp hd hd2 _).mono ?_; rintro e w2 ⟨rfl, hb⟩
  have k0 := hb.cell (p := ⟨w1.heap.size, 0, none⟩) (by simp); simp [go_sem] at k0
  have k1 := hb.cell (p := ⟨w1.heap.size, 1, none⟩) (by simp); simp [go_sem] at k1
  have Z2 : Below w.heap.size w w2 := (Z1.alloc Z1.size _).trans (hb.mono (by have := Z1.size; simp; omega))
  have kl : w1.heap.size < w2.heap.size := by have := hb.size; simp at this; omega
  clear gl gl1 g0 g1 hb
  go_wp2_with (first | (at_builtin; refine wpList_push rfl _ _ 54 rfl 63 i0 _ 4 32 Tryz.underlying54 hi0 hz0 hs0 hb0 rfl (by omega) (Acc.nil (Below.refl _ _) 63 4) rfl rfl (by simp) rfl rfl (by omega) (by omega) ?_; intro gr cr w3 hA; have Z3 := Z2.trans (hA.bel.mono Z2.size); have hr := hA.row; have hL : Lr T.size 1 gr w3 := ⟨hr.2.1, hr.2.2 0 _ rfl, hr.2.2 1 _ rfl, hr.2.2 2 _ rfl, hr.2.2 3 _ rfl⟩; clear hr hA) | (refine wp_loop_unr 3 ?_; refine Unr.step ?_; intro U hU) | (refine Unr.step ?_; intro U hU))
  go_ret2
  exact ⟨gr, cr, rfl, hL, Z3⟩
set_option maxRecDepth 100000 in
set_option maxHeartbeats 2000000 in
theorem text_0 (T : ByteArray) (hs : T.size ≤ 100000) (v a : Int) (w : World) : Calls Tryz.prog 21 #[.string T, .agg #[.int .i64 0, .int .i64 (T.size : Nat), .int .i64 v, .int .i64 a]] w fun e w' => e = .returned (.string T) ∧ Below w.heap.size w w' := by
  have hall : ∀ W : World, (Instr.slice 9 (.string T) (some (.int .i64 0)) (some (.int .i64 (T.size : Nat))) none).run Tryz.prog W = .ok (.string T) W := fun W => slice_eq T T 0 T.size (by omega) (Nat.le_refl _) (ext_all T) W
  have m1 : min (0 : Int) (T.size : Int) = 0 := by omega
  have m2 : max (T.size : Int) 0 = (T.size : Int) := by omega
  have m3 : min (T.size : Int) (T.size : Int) = (T.size : Int) := by omega
  go_enter Tryz.func21, Tryz.ntmps21
  go_wp2_with fail
  go_ret
  exact ⟨rfl, by (repeat' (first | refine Below.setCell ?_ (by first | (simp; done) | (simp; omega) | omega | (simp [World.setCell]; omega)) _ | refine Below.alloc ?_ (by first | (simp; done) | (simp; omega) | omega | (simp [World.setCell]; omega)) _ | refine below_drewN' ?_ _ | refine Below.drew ?_ | exact Hid.out (by assumption) | exact Below.refl _ _))⟩
structure Alt (w w' : World) (s : Nat) (T0 : ByteArray) : Prop where
  size : w.heap.size ≤ w'.heap.size
  cell : ∀ a : Addr, a.block ≠ s → w'.cell? a = w.cell? a
  s0 : w.cell? ⟨s, 0, none⟩ = some (.string T0)
  s3 : w.cell? ⟨s, 3, none⟩ = some (.slice none 0 0)
theorem Alt.ne {w w' : World} {s : Nat} {T0 : ByteArray} (h : Alt w w' s T0) {a : Nat} {v : Value} (hc : w.cell? ⟨a, 0, none⟩ = some v) (hv : ∀ t, v ≠ .string t) : a ≠ s := by
  rintro rfl; rw [h.s0] at hc; injection hc with e; exact hv _ e.symm
theorem Alt.ne3 {w w' : World} {s : Nat} {T0 : ByteArray} (h : Alt w w' s T0) {a : Nat} {v : Value} (hc : w.cell? ⟨a, 3, none⟩ = some v) (hv : v ≠ .slice none 0 0) : a ≠ s := by
  rintro rfl; rw [h.s3] at hc; injection hc with e; exact hv e.symm
theorem Rw.alt {w w' : World} {s b x n : Nat} {T0 : ByteArray} (h : Rw w b x n) (A : Alt w w' s T0) : Rw w' b x n := by
  obtain ⟨g, cap, h1, h2, h3, h4, h5⟩ := h
  have nb := A.ne h1 (fun _ e => by cases e)
  have ng := A.ne h3 (fun _ e => by cases e)
  exact ⟨g, cap, (A.cell ⟨b, 0, none⟩ nb).trans h1, (A.cell ⟨b, 1, none⟩ nb).trans h2, (A.cell ⟨g, 0, none⟩ ng).trans h3, Nat.lt_of_lt_of_le h4 A.size, Nat.lt_of_lt_of_le h5 A.size⟩
theorem R0.alt {w w' : World} {s b : Nat} {T0 : ByteArray} (h : R0 w b) (A : Alt w w' s T0) : R0 w' b := by
  obtain ⟨h1, h2, h3⟩ := h
  have nb := A.ne h2 (fun _ e => by cases e)
  exact ⟨Nat.lt_of_lt_of_le h1 A.size, (A.cell ⟨b, 0, none⟩ nb).trans h2, (A.cell ⟨b, 1, none⟩ nb).trans h3⟩
theorem Low.alt {w w' : World} {s b n : Nat} {T0 : ByteArray} (h : Low w b n) (A : Alt w w' s T0) : Low w' b n := ⟨fun e => (h.1 e).alt A, fun e => (h.2 e).alt A⟩
theorem Tr.alt {w w' : World} {s p b : Nat} {T0 : ByteArray} (h : Tr w p b) (A : Alt w w' s T0) : Tr w' p b := by
  obtain ⟨G, h1, h2, c0, c1, c2, g3, g4⟩ := h
  have np := A.ne c0 (fun _ e => by cases e)
  have ng := A.ne3 g3 (fun e => by cases e)
  exact ⟨G, Nat.lt_of_lt_of_le h1 A.size, Nat.lt_of_lt_of_le h2 A.size, (A.cell ⟨p, 0, none⟩ np).trans c0, (A.cell ⟨p, 1, none⟩ np).trans c1, (A.cell ⟨p, 2, none⟩ np).trans c2, (A.cell ⟨G, 3, none⟩ ng).trans g3, (A.cell ⟨G, 4, none⟩ ng).trans g4⟩
theorem Dr.alt {w w' : World} {s p b : Nat} {T0 : ByteArray} (h : Dr w p b) (A : Alt w w' s T0) : Dr w' p b := by
  obtain ⟨G, cap, h1, h2, c0, c1, g0, g1⟩ := h
  have np := A.ne c0 (fun _ e => by cases e)
  have ng := A.ne g0 (fun _ e => by cases e)
  exact ⟨G, cap, Nat.lt_of_lt_of_le h1 A.size, Nat.lt_of_lt_of_le h2 A.size, (A.cell ⟨p, 0, none⟩ np).trans c0, (A.cell ⟨p, 1, none⟩ np).trans c1, (A.cell ⟨G, 0, none⟩ ng).trans g0, (A.cell ⟨G, 1, none⟩ ng).trans g1⟩
theorem Ch.alt {w w' : World} {s C b z : Nat} {T0 : ByteArray} (h : Ch w C b z) (A : Alt w w' s T0) : Ch w' C b z := by
  obtain ⟨D, hD, G1, cap1, G0, cap0, a1, a2, a3, c0, c1, c2, c3, c4, g1, g0⟩ := h
  have nc := A.ne c0 (fun _ e => by cases e)
  have n1 := A.ne g1 (fun _ e => by cases e)
  have n0 := A.ne g0 (fun _ e => by cases e)
  exact ⟨D, hD.alt A, G1, cap1, G0, cap0, Nat.lt_of_lt_of_le a1 A.size, Nat.lt_of_lt_of_le a2 A.size, Nat.lt_of_lt_of_le a3 A.size, (A.cell ⟨C, 0, none⟩ nc).trans c0, (A.cell ⟨C, 1, none⟩ nc).trans c1, (A.cell ⟨C, 2, none⟩ nc).trans c2, (A.cell ⟨C, 3, none⟩ nc).trans c3, (A.cell ⟨C, 4, none⟩ nc).trans c4, (A.cell ⟨G1, 0, none⟩ n1).trans g1, (A.cell ⟨G0, 0, none⟩ n0).trans g0⟩
theorem Ns.alt {w w' : World} {s p b : Nat} {T0 : ByteArray} (h : Ns w p b) (A : Alt w w' s T0) : Ns w' p b := by
  obtain ⟨T, C, h1, c0, c1, c2, k1, k2, k3⟩ := h
  have np := A.ne c0 (fun _ e => by cases e)
  exact ⟨T, C, Nat.lt_of_lt_of_le h1 A.size, (A.cell ⟨p, 0, none⟩ np).trans c0, (A.cell ⟨p, 1, none⟩ np).trans c1, (A.cell ⟨p, 2, none⟩ np).trans c2, k1.alt A, k2.alt A, k3.alt A⟩
theorem Sq.alt {w w' : World} {s p n : Nat} {T0 : ByteArray} (h : Sq w p n) (A : Alt w w' s T0) : Sq w' p n := by
  obtain ⟨b, C, hb, h1, c0, c1, c2, c3, c4, k1, k2, k3⟩ := h
  have np := A.ne c0 (fun _ e => by cases e)
  exact ⟨b, C, hb, Nat.lt_of_lt_of_le h1 A.size, (A.cell ⟨p, 0, none⟩ np).trans c0, (A.cell ⟨p, 1, none⟩ np).trans c1, (A.cell ⟨p, 2, none⟩ np).trans c2, (A.cell ⟨p, 3, none⟩ np).trans c3, (A.cell ⟨p, 4, none⟩ np).trans c4, k1.alt A, k2.alt A, k3.alt A⟩
theorem Tab.alt {w w' : World} {s : Nat} {T0 : ByteArray} (h : Tab w) (A : Alt w w' s T0) : Tab w' := by
  obtain ⟨h1, c0, c1, c2, c3⟩ := h
  have n4 := A.ne c0 (fun _ e => by cases e)
  exact ⟨Nat.lt_of_lt_of_le h1 A.size, (A.cell ⟨4, 0, none⟩ n4).trans c0, (A.cell ⟨4, 3, none⟩ n4).trans c1, (A.cell ⟨4, 7, none⟩ n4).trans c2, (A.cell ⟨4, 15, none⟩ n4).trans c3⟩
theorem Ix.alt {w w' : World} {s p n : Nat} {T T0 : ByteArray} (h : Ix w p T n) (A : Alt w w' s T0) : Ix w' p T n := by
  obtain ⟨sq, b, ns, h1, c0, c1, c2, c3, k1, k2, k3⟩ := h
  have np := A.ne c0 (fun _ e => by cases e)
  exact ⟨sq, b, ns, Nat.lt_of_lt_of_le h1 A.size, (A.cell ⟨p, 0, none⟩ np).trans c0, (A.cell ⟨p, 1, none⟩ np).trans c1, (A.cell ⟨p, 2, none⟩ np).trans c2, (A.cell ⟨p, 3, none⟩ np).trans c3, k1.alt A, k2.alt A, k3.alt A⟩
set_option maxRecDepth 100000 in
set_option maxHeartbeats 2000000 in
theorem build_1 (T : ByteArray) (n L : Nat) (c : Int) (hT : ScT T n L c) (h10 : T.data.toList.contains 10 = false) (dp : Nat) (hd : 1 ≤ dp) (hd2 : dp ≤ 4096) (hZ : Ms T 0 false [((0 : Int), (91 : Int)), ((L : Int), (93 : Int))]) (w : World) (hTb : Tab w) : Calls Tryz.prog 14 #[.string T, .int .i64 (dp : Nat)] w fun e w' => ∃ s p, e = .returned (.tuple #[.pointer (some ⟨s, 0, none⟩), .int .i64 0]) ∧ Se w' s p n ∧ Ix w' p T n ∧ Below w.heap.size w w' := by
  have hn := hT.hn
  subst hn
  have h1 := hT.h1
  have hs : T.size ≤ 100000 := by omega
  have hpos := hT.k0
  have H10 := Lib.hid h10
  clear h10
  have hall : ∀ W : World, (Instr.slice 9 (.string T) (some (.int .i64 0)) (some (.int .i64 (T.size : Nat))) none).run Tryz.prog W = .ok (.string T) W := fun W => slice_eq T T 0 T.size (by omega) (Nat.le_refl _) (ext_all T) W
  obtain ⟨i0, hi0, hz0, hs0, hb0⟩ := info_parts info64
  go_enter Tryz.func14, Tryz.ntmps14
  go_wp2_with fail
  refine (records_1 T T.size L c hT H10.out dp hd hd2 _).mono ?_; rintro e w1 ⟨g, cc, rfl, hG, Z1⟩
  obtain ⟨gl, g0, g1, g2, g3⟩ := id hG
  have gl1 : g < w1.heap.size + 1 := by omega
  have gl2 : g < w1.heap.size + 1 + 1 := by omega
  have gl3 : g < w1.heap.size + 1 + 1 + 1 := by omega
  go_wp2_with (first | (refine wp_loop_unr 3 ?_; refine Unr.step ?_; intro U hU) | (refine Unr.step ?_; intro U hU))
  refine (text_0 T hs 1 1 _).mono ?_; rintro e w2 ⟨rfl, hb⟩
  have Z2 : Below w1.heap.size w1 w2 := (((Below.refl _ _).alloc (Nat.le_refl _) _).alloc (by simp) _).trans (hb.mono (by simp; omega))
  have s0 := hb.cell (p := ⟨w1.heap.size, 0, none⟩) (by simp; omega); simp [go_sem] at s0
  have s1 := hb.cell (p := ⟨w1.heap.size, 1, none⟩) (by simp; omega); simp [go_sem] at s1
  have s2 := hb.cell (p := ⟨w1.heap.size, 2, none⟩) (by simp; omega); simp [go_sem] at s2
  have s3 := hb.cell (p := ⟨w1.heap.size, 3, none⟩) (by simp; omega); simp [go_sem] at s3
  have sz3 := hb.frozen (p := ⟨w1.heap.size, 3, none⟩) (by simp; omega); simp [go_sem] at sz3
  have sl2 : w1.heap.size < w2.heap.size := by have := hb.size; simp at this; omega
  clear gl gl1 gl2 gl3 g0 g1 g2 g3 hb
  go_wp2_with fail
  refine (make_1 T T.size L c hT hZ _ (hTb.below (Z1.trans (Z2.mono Z1.size)))).mono ?_; rintro e w3 ⟨p, rfl, Z3, hIx⟩
  replace s0 := (Z3.cell (p := ⟨w1.heap.size, 0, none⟩) sl2).trans s0
  replace s1 := (Z3.cell (p := ⟨w1.heap.size, 1, none⟩) sl2).trans s1
  replace s2 := (Z3.cell (p := ⟨w1.heap.size, 2, none⟩) sl2).trans s2
  replace s3 := (Z3.cell (p := ⟨w1.heap.size, 3, none⟩) sl2).trans s3
  replace sz3 := (Z3.frozen (p := ⟨w1.heap.size, 3, none⟩) sl2).trans sz3
  have sl3 : w1.heap.size < w3.heap.size := Nat.lt_of_lt_of_le sl2 Z3.size
  have Zr : Below w1.heap.size w1 w3 := Z2.trans (Z3.mono Z2.size)
  have hG3 := hG.below Zr
  go_wp2_with (first | (at_builtin; refine wpList_push rfl _ _ 57 rfl 64 i0 _ 1 8 Tryz.underlying57 hi0 hz0 hs0 hb0 rfl (by omega) (Acc.nil (Below.refl _ _) 64 1) rfl rfl (by simp) rfl rfl (by omega) (by omega) ?_; intro gr cr w4 hA; have Z4 := hA.bel; have hr := hA.row; have hX : Xr p gr w4 := ⟨hr.2.1, hr.2.2 0 _ rfl⟩; have hgr : w1.heap.size ≠ gr := (by have := hr.1; omega); replace s0 := (Z4.cell (p := ⟨w1.heap.size, 0, none⟩) sl3).trans s0; replace s1 := (Z4.cell (p := ⟨w1.heap.size, 1, none⟩) sl3).trans s1; replace s2 := (Z4.cell (p := ⟨w1.heap.size, 2, none⟩) sl3).trans s2; replace s3 := (Z4.cell (p := ⟨w1.heap.size, 3, none⟩) sl3).trans s3; replace sz3 := (Z4.frozen (p := ⟨w1.heap.size, 3, none⟩) sl3).trans sz3; have sl4 : w1.heap.size < w4.heap.size := Nat.lt_of_lt_of_le sl3 Z4.size; have hG4 := hG3.below Z4; have hI4 := hIx.below Z4; clear hr hA) | (refine wp_loop_unr 3 ?_; refine Unr.step ?_; intro U hU) | (refine Unr.step ?_; intro U hU))
  go_ret2
  have hne : g ≠ w1.heap.size := by have := hG.lt; omega
  have hAlt : Alt w4 (w4.setCell ⟨w1.heap.size, 3, none⟩ (.slice (some ⟨gr, 0, none⟩) 1 cr)) w1.heap.size T := ⟨by simp [World.setCell], fun a ha => World.cell?_setCell_other _ _ _ _ (by rintro rfl; exact ha rfl), s0, s3⟩
  refine ⟨w1.heap.size, p, rfl, ⟨T, dp, g, cc, gr, cr, 1, ⟨by simpa [World.setCell] using sl4, ?_, ?_, ?_, ?_⟩, hG4.set (a := ⟨w1.heap.size, 3, none⟩) (Ne.symm hne) _, hX.set (a := ⟨w1.heap.size, 3, none⟩) hgr _⟩, hI4.alt hAlt, (Z1.trans ((Zr.trans (Z4.mono Zr.size)).mono Z1.size)).setCell (p := ⟨w1.heap.size, 3, none⟩) Z1.size _⟩
  · exact (World.cell?_setCell_other _ _ _ _ (by intro e; injection e with e1 e2; omega)).trans s0
  · exact (World.cell?_setCell_other _ _ _ _ (by intro e; injection e with e1 e2; omega)).trans s1
  · exact (World.cell?_setCell_other _ _ _ _ (by intro e; injection e with e1 e2; omega)).trans s2
  · exact World.cell?_setCell_same' _ _ _ (by rw [s3]; rfl)
end Go.Proofs.YtjelneeeijjpiaaGreatDoor
end
section
namespace Go.Proofs.YtjelneeeijjpiaaGreatDoor
open Go.RowKit
theorem u51 : Tryz.prog.underlying 51 = some (.map 9 49) := by kernel_rfl
theorem u9 : Tryz.prog.underlying 9 = some .string := by kernel_rfl
theorem run_ins {w : World} {b : Nat} {es : Array MapEntry} {cl : Nat} {k : ByteArray} {f : Value} (hb : w.heap[b]? = some (.map es cl)) (hk : Instr.findNow .string (.string k) es.toList 0 = some none) :
    (Instr.mapUpdate 51 (.map (some b)) (.string k) f).run Tryz.prog w = .ok () { w with heap := w.heap.setIfInBounds b (.map (es.push { key := .string k, val := f, born := cl }) (cl + 1)) } := by
  simp [Instr.mapUpdate, run_underlying u51, MapKept.run_getObj_map hb, MapKept.run_checkKey u9 (show MapKept.IsKey .string (.string k) from trivial), MapKept.run_findKey u9 hk, MapKept.run_setObj_map _ hb, Result.andThen]
theorem run_look {w : World} {b : Nat} {es : Array MapEntry} {cl : Nat} {k : ByteArray} {i : Nat} {f : Value} (hb : w.heap[b]? = some (.map es cl)) (hk : Instr.findNow .string (.string k) es.toList 0 = some (some (i, f))) :
    (Instr.lookup 51 (.map (some b)) (.string k) true).run Tryz.prog w = .ok (.tuple #[f, .bool true]) w := by
  simp [Instr.lookup, run_underlying u51, MapKept.run_getObj_map hb, MapKept.run_checkKey u9 (show MapKept.IsKey .string (.string k) from trivial), MapKept.run_findKey u9 hk, Result.andThen]
theorem wpList_ins {ops : Array Oper} {rest : List Oper} {o : Oper} {a : Act} {Q : Exit → Act → World → Prop} {w : World} (hg : o.guard = none) (m x v : Operand) (hop : o.op = Op.insert 51 m x v) (b : Nat) (es : Array MapEntry) (cl : Nat)
    (hm : a.eval m = .map (some b)) (hb : w.heap[b]? = some (.map es cl)) (key : ByteArray) (val : Value) (hx : a.eval x = .string key) (hv : a.eval v = val) (hk : Instr.findNow .string (.string key) es.toList 0 = some none)
    (hK : ∀ w', w'.heap[b]? = some (.map (es.push { key := .string key, val := val, born := cl }) (cl + 1)) → w.grownBy w' (some b) → wpList Tryz.prog ops Q rest (a.put o.dst undef) w') : wpList Tryz.prog ops Q (o :: rest) a w := by
  refine wpList_plain hg fun K' hK' => ?_
  have hrun := run_ins (f := val) hb hk
  have hs := MapKept.heap_set (o' := .map (es.push { key := .string key, val := val, born := cl }) (cl + 1)) hb
  unfold Oper.wp
  simp [execOp, hop, hm, hx, hv, hrun, Result.andThen]
  exact hK' _ _ (hK _ hs.1 ⟨rfl, rfl, rfl, by simp, fun i _ hi => hs.2 i (fun e => hi (by rw [e]))⟩)
def Cmds (w : World) (b : Nat) : Prop := ∃ es cl, w.heap[b]? = some (.map es cl) ∧ Instr.findNow .string (.string ⟨#[118, 97, 108, 117, 101, 115]⟩) es.toList 0 = some (some (3, .func (.func 29) #[] #[])) ∧ Instr.findNow .string (.string ⟨#[116, 101, 120, 116]⟩) es.toList 0 = some (some (6, .func (.func 32) #[] #[]))
set_option maxRecDepth 100000 in
set_option maxHeartbeats 2000000 in
theorem commands_any (w : World) : Calls Tryz.prog 17 #[] w fun e w' => ∃ b, e = .returned (.map (some b)) ∧ Cmds w' b ∧ Below w.heap.size w w' := by
  have hmk : (Instr.makeMap 51 none).run Tryz.prog w = .ok (.map (some w.heap.size)) (w.alloc (.map #[] 0)) := by
    first | rfl | simp [Instr.makeMap, newObj, Sem.run]
  have hb : (w.alloc (.map #[] 0)).heap[w.heap.size]? = some (.map #[] 0) := World.alloc_heap_new w _
  have HB : Hid (Below w.heap.size w (w.alloc (.map #[] 0))) := Lib.hid ((Below.refl _ _).alloc (Nat.le_refl _) _)
  go_enter Tryz.func17, Tryz.ntmps17
  go_wp2_with (refine wpList_ins rfl _ _ _ rfl _ _ _ rfl (by assumption) _ _ rfl rfl (by first | rfl | decide) ?_; intro w1 hb1 hg1; have HB1 := Lib.hid (HB.out.grown hg1 HB.out.size (fun k e => by cases e; exact Nat.le_refl _)); clear hg1 hb HB; have hb := hb1; have HB := HB1; clear hb1 HB1)
  go_ret
  exact ⟨_, rfl, ⟨_, _, hb, by first | rfl | decide, by first | rfl | decide⟩, HB.out⟩
end Go.Proofs.YtjelneeeijjpiaaGreatDoor
end
