/- The walk of Equal. -/
import Derived.Test.YtlckidgeooiboaaEC4
namespace Go.Proofs.Ytlckidgeooiboaa
open Go.RowKit Go.Shelf Go.Proofs.Lw Go.Proofs.Le
set_option linter.unusedVariables false
attribute [local go_sem] Oper.semAt_some
theorem hp_t (s p : ByteArray) (w : World) (hs : s.size ≤ 1000) (hp : p.size ≤ 1000) (h : Hid (s.data.toList.take p.size = p.data.toList)) :
    Calls Try.prog 26 #[.string s, .string p] w fun e w' => e = .returned (.bool true) ∧ w = w' := hp_any s p true w (by unfold maxLen; omega) (by unfold maxLen; omega) (Lib.hid ⟨fun _ => h.out, fun _ => rfl⟩)
theorem hp_f (s p : ByteArray) (w : World) (hs : s.size ≤ 1000) (hp : p.size ≤ 1000) (h : Hid (¬ s.data.toList.take p.size = p.data.toList)) :
    Calls Try.prog 26 #[.string s, .string p] w fun e w' => e = .returned (.bool false) ∧ w = w' := hp_any s p false w (by unfold maxLen; omega) (by unfold maxLen; omega) (Lib.hid ⟨fun h' => absurd h' (by decide), fun h' => absurd h' h.out⟩)
/-- what stands through Equal's loop -/
def EX (A : Nat) (s t : ByteArray) (sm : Bool) (W : World) : Prop := Bx W A (.string t) 9 ∧ Bx W (A + 1) (.bool false) 4 ∧ Bx W (A + 2) (.bool sm) 4 ∧ Bx W (A + 3) (.string s) 9
theorem EX.own {A : Nat} {s t : ByteArray} {sm : Bool} {W W' : World} {row : Option Nat} (h : EX A s t sm W) (hg : W.grownBy W' row) (hr : ∀ r, row = some r → ∃ o : Obj, W.heap[r]? = some o ∧ o.isCells = false) : EX A s t sm W' :=
  ⟨h.1.own hg hr, h.2.1.own hg hr, h.2.2.1.own hg hr, h.2.2.2.own hg hr⟩
theorem EX.below {A : Nat} {s t : ByteArray} {sm : Bool} {W W' : World} (h : EX A s t sm W) (hb : Below W.heap.size W W') : EX A s t sm W' :=
  ⟨h.1.below hb, h.2.1.below hb, h.2.2.1.below hb, h.2.2.2.below hb⟩
theorem EX.kp {A : Nat} {s t t' : ByteArray} {sm sm' : Bool} {W W' : World} (h : EX A s t sm W) (h' : EX A s t' sm' W') : KpB (A + 3) W W' := fun v hv => by
  have := h.2.2.2.cells.1
  rw [this] at hv; injection hv with hv; subst hv; exact h'.2.2.2.cells.1
theorem EX.same {A : Nat} {s t : ByteArray} {sm : Bool} {W : World} (h : EX A s t sm W) (b : Bool) : EX A s t b (W.setCell ⟨A + 2, 0, none⟩ (.bool b)) :=
  ⟨h.1.other (by omega) _, h.2.1.other (by omega) _, h.2.2.1.set _, h.2.2.2.other (by omega) _⟩
theorem EX.text {A : Nat} {s t : ByteArray} {sm : Bool} {W : World} (h : EX A s t sm W) (t' : ByteArray) : EX A s t' sm (W.setCell ⟨A, 0, none⟩ (.string t')) :=
  ⟨h.1.set _, h.2.1.other (by omega) _, h.2.2.1.other (by omega) _, h.2.2.2.other (by omega) _⟩
theorem EX.start (w : World) (s t : ByteArray) (U : Bool) : EX w.heap.size s t U ((((w.alloc (.cells #[.string t] 9)).alloc (.cells #[.bool false] 4)).alloc (.cells #[.bool U] 4)).alloc (.cells #[.string s] 9)) := by
  have h2 := Bx.new (w.alloc (.cells #[.string t] 9)) (.bool false) 4
  have h3 := Bx.new ((w.alloc (.cells #[.string t] 9)).alloc (.cells #[.bool false] 4)) (.bool U) 4
  have h4 := Bx.new (((w.alloc (.cells #[.string t] 9)).alloc (.cells #[.bool false] 4)).alloc (.cells #[.bool U] 4)) (.string s) 9
  simp only [World.size_alloc] at h2 h3 h4
  exact ⟨((Bx.new w _ 9).alloc _ |>.alloc _ |>.alloc _), (h2.alloc _ |>.alloc _), h3.alloc _, h4⟩
/-- what Equal knows -/
def EQ (T : List UInt8) (pre : List (Int × Int)) (t : ByteArray) (sm : Bool) : Prop :=
  t.size ≤ 1000 ∧ (sm = true → uright T = true ∧ T = textL pre ++ t.data.toList) ∧ (sm = false → ¬ (uright T = true ∧ ∃ z, T = textL pre ++ z))
theorem EQ.no {T : List UInt8} {pre : List (Int × Int)} {t : ByteArray} (h : EQ T pre t false) (x : Int × Int) : EQ T (pre ++ [x]) t false :=
  ⟨h.1, fun h' => absurd h' (by decide), fun _ ⟨h1, z, h2⟩ => h.2.2 rfl ⟨h1, _, by rw [textL_snoc, List.append_assoc] at h2; exact h2⟩⟩
theorem EQ.miss {T : List UInt8} {pre : List (Int × Int)} {t : ByteArray} (h : EQ T pre t true) (x : Int × Int) (hp : ¬ t.data.toList.take (strOfNums (putN x.1)).size = (strOfNums (putN x.1)).data.toList) : EQ T (pre ++ [x]) t false := by
  refine ⟨h.1, fun h' => absurd h' (by decide), fun _ ⟨h1, z, h2⟩ => hp ?_⟩
  have h3 := (h.2.1 rfl).2
  rw [textL_snoc, List.append_assoc] at h2
  have h4 := List.append_cancel_left (h3.symm.trans h2)
  rw [h4, Lib.size_eq, List.take_left' rfl]
theorem EQ.hit {T : List UInt8} {pre : List (Int × Int)} {t : ByteArray} (h : EQ T pre t true) (x : Int × Int) (hp : t.data.toList.take (strOfNums (putN x.1)).size = (strOfNums (putN x.1)).data.toList) : EQ T (pre ++ [x]) (t.extract (strOfNums (putN x.1)).size t.size) true := by
  refine ⟨by simp; have := h.1; omega, fun _ => ⟨(h.2.1 rfl).1, ?_⟩, fun h' => absurd h' (by decide)⟩
  rw [textL_snoc, List.append_assoc, ← hp, Lib.extract_data, List.take_of_length_le (l := List.drop _ _) (by simp), List.take_append_drop]
  exact (h.2.1 rfl).2
theorem hit_size {t p : ByteArray} (h : t.data.toList.take p.size = p.data.toList) : p.size ≤ t.size := by
  have := congrArg List.length h
  rw [List.length_take, ← Lib.size_eq, ← Lib.size_eq] at this
  omega
theorem right_to2 (s : ByteArray) (R : Bool) (w : World) (hs : s.size ≤ maxLen) (h : Hid (uright s.data.toList = R)) :
    Calls Try.prog 25 #[.string s] w fun e w' => e = .returned (.bool R) ∧ w = w' := by
  rw [← h.out]; exact right_any s w hs
set_option maxRecDepth 100000 in
set_option maxHeartbeats 1000000 in
theorem equal_any (s t : ByteArray) (hs : s.size ≤ 100000) (ht : t.size ≤ 1000) (R : Bool) (hR : Hid (R = true ↔ (∀ y ∈ charsL s.data.toList, y.1 ≠ -1) ∧ uright t.data.toList = true ∧ t.data.toList = textL (charsL s.data.toList))) (U : Bool) (hU : Hid (uright t.data.toList = U)) (w : World) :
    Calls Try.prog 13 #[.string s, .string t] w fun e w' => e = .returned (.bool R) ∧ Below w.heap.size w w' := by
  refine (callsIn_wide (n := 5)).1 ?_
  refine callsIn_of_wp_marks Try.func13 rfl trivial ?_ rfl
  simp only [Try.ntmps13, List.size_toArray, List.length_cons, List.length_nil, Nat.reduceAdd, Nat.reduceSub, Array.replicate_succ, Array.replicate_zero, List.push_toArray, List.append_toArray, List.nil_append, List.cons_append]
  gi_wp2_with (first
    | (refine ⟨trivial, ?_⟩; gi_at_call 25; refine (callsIn_wide.2 (right_to2 t U _ (by unfold maxLen; omega) hU)).mono ?_; rintro e w' ⟨rfl, rfl⟩)
    | (refine ⟨trivial, ?_⟩; gi_at_call 19; refine (chars_any _ s _).mono ?_; rintro e w' ⟨rfl, rfl⟩))
  have hB0 : Below w.heap.size w ((((w.alloc (.cells #[.string t] 9)).alloc (.cells #[.bool false] 4)).alloc (.cells #[.bool U] 4)).alloc (.cells #[.string s] 9)) :=
    ((((Below.refl _ w).alloc (Nat.le_refl _) _).alloc (by simp) _).alloc (by simp; omega) _).alloc (by simp; omega) _
  have hT0 := EX.start w s t U
  have hQ0 : EQ t.data.toList [] t U := ⟨ht, fun h => ⟨by rw [hU.out, h], rfl⟩, fun h ⟨h1, _⟩ => by rw [hU.out, h] at h1; exact absurd h1 (by decide)⟩
  refine wpIn_rangeFunc_ownF rfl (by omega) (gf := 29) (lb := #[.pointer (some ⟨w.heap.size + 1 + 1 + 1, 0, none⟩)]) rfl trivial (enters_of Try.func29 (by kernel_rfl) rfl)
    (chars_stops _ (by omega) (w.heap.size + 3) s hs _ (by simp) hT0.2.2.2.cells.1) KpB_t KpB_b (Below.refl _ _) (fun _ => rfl)
    (fun pre W => ((∀ y ∈ pre, y.1 ≠ -1) ∧ ∃ t' sm, EQ t.data.toList pre t' sm ∧ EX w.heap.size s t' sm W) ∧ Below w.heap.size w W)
    (fun c pre W => (c = .ret ∧ (∃ y ∈ pre, y.1 = -1) ∧ Bx W (w.heap.size + 1) (.bool false) 4) ∧ Below w.heap.size w W)
    (OwnFrom.and (Own.from (fun _ A B row hs hg hr => ⟨hs.1, by obtain ⟨_, t', sm, h1, h2⟩ := hs; exact ⟨t', sm, h1, h2.own hg hr⟩⟩) _) (ownFrom_below (Nat.le_refl _) (by simp; omega)))
    (fun c => OwnFrom.and (Own.from (fun s A B row hs hg hr => ⟨hs.1, hs.2.1, hs.2.2.own hg hr⟩) _) (ownFrom_below (Nat.le_refl _) (by simp; omega)))
    ⟨⟨by simp, t, U, hQ0, hT0⟩, hB0⟩
    (fun x => { tmps := #[.string s, .string t, undef, .pointer (some ⟨w.heap.size, 0, none⟩), .pointer (some ⟨w.heap.size + 1, 0, none⟩), .pointer (some ⟨w.heap.size + 1 + 1, 0, none⟩), .int .i64 x.1, undef, .string t, .bool U, .string s, .func (.func 29) #[] #[.pointer (some ⟨w.heap.size + 1 + 1 + 1, 0, none⟩)], .int .i64 x.1, .int .i64 x.2, undef, undef, undef, undef, undef, undef, undef, undef, undef, undef, undef, undef, undef, undef, undef, undef, undef, undef, undef, undef], defers := [] }) ?assign ?body ?done ?stop
  case assign =>
    intro l x W K hK
    gi_wp2
    exact hK
  case body =>
    rintro l pre x W ⟨⟨hp, t', sm, hQ, hX⟩, hB⟩ _
    by_cases hx : x.1 = -1
    · have hxb : (x.1 == -1) = true := by rw [beq_iff_eq]; exact hx
      obtain ⟨hc1, hf1⟩ := hX.2.1.cells
      gi_wp2
      exact ⟨KeepsOthers.setCell _ _ _, ⟨rfl, ⟨x, List.mem_append.2 (.inr (by simp)), hx⟩, hX.2.1.set _⟩, hB.setCell (p := ⟨w.heap.size + 1, 0, none⟩) (by simp) _⟩
    · have hxb : (x.1 == -1) = false := by rw [beq_eq_false_iff_ne]; exact hx
      have hp' : ∀ y ∈ pre ++ [x], y.1 ≠ -1 := fun y hy => (List.mem_append.1 hy).elim (hp y) (fun e e' => by simp at e; subst e; exact hx e')
      have hPs : (strOfNums (putN x.1)).size ≤ 1000 := by have := strOf_size x.1; omega
      cases sm
      · gi_wp2_with (refine ⟨trivial, ?_⟩; gi_at_call 21; refine (CallsIn.inRound l (callsIn_wide.2 (put_any x.1 _))).mono ?_; rintro e w1 ⟨rfl, hb1⟩; have hX1 := hX.below hb1; obtain ⟨hc2, hf2⟩ := hX1.2.2.1.cells)
        refine ⟨trivial, ?_⟩
        gi_wp2
        have hX2 := hX1.same false
        exact ⟨(keeps_below hb1).trans (KeepsOthers.setCell _ _ _), hX.kp hX2, ⟨hp', t', false, hQ.no x, hX2⟩, (hB.trans (hb1.mono hB.size)).setCell (p := ⟨w.heap.size + 2, 0, none⟩) (by simp) _⟩
      · by_cases hh : t'.data.toList.take (strOfNums (putN x.1)).size = (strOfNums (putN x.1)).data.toList
        · have hQ2 := hQ.hit x hh
          have hHH := Lib.hid hh
          have hz := hit_size hh
          have hz1 : ((strOfNums (putN x.1)).size : Int) ≤ (t'.size : Int) := by omega
          have ht1 := hQ.1
          clear hh
          gi_wp2_with (first
            | (refine ⟨trivial, ?_⟩; gi_at_call 21; refine (CallsIn.inRound l (callsIn_wide.2 (put_any x.1 _))).mono ?_; rintro e w1 ⟨rfl, hb1⟩; have hX1 := hX.below hb1; obtain ⟨hc2, hf2⟩ := hX1.2.2.1.cells; obtain ⟨hc0, hf0⟩ := hX1.1.cells)
            | (refine ⟨trivial, ?_⟩; gi_at_call 26; refine (CallsIn.inRound l (callsIn_wide.2 (hp_t t' _ _ ht1 hPs hHH))).mono ?_; rintro e w2 ⟨rfl, rfl⟩))
          have hX2 := (hX1.same true).text (t'.extract (strOfNums (putN x.1)).size t'.size)
          exact ⟨((keeps_below hb1).trans (KeepsOthers.setCell _ _ _)).trans (KeepsOthers.setCell _ _ _), hX.kp hX2, ⟨hp', _, true, hQ2, hX2⟩, ((hB.trans (hb1.mono hB.size)).setCell (p := ⟨w.heap.size + 2, 0, none⟩) (by simp) _).setCell (p := ⟨w.heap.size, 0, none⟩) (by simp) _⟩
        · have hQ2 := hQ.miss x hh
          have hHH := Lib.hid hh
          have ht1 := hQ.1
          clear hh
          gi_wp2_with (first
            | (refine ⟨trivial, ?_⟩; gi_at_call 21; refine (CallsIn.inRound l (callsIn_wide.2 (put_any x.1 _))).mono ?_; rintro e w1 ⟨rfl, hb1⟩; have hX1 := hX.below hb1; obtain ⟨hc2, hf2⟩ := hX1.2.2.1.cells; obtain ⟨hc0, hf0⟩ := hX1.1.cells)
            | (refine ⟨trivial, ?_⟩; gi_at_call 26; refine (CallsIn.inRound l (callsIn_wide.2 (hp_f t' _ _ ht1 hPs hHH))).mono ?_; rintro e w2 ⟨rfl, rfl⟩))
          have hX2 := hX1.same false
          exact ⟨(keeps_below hb1).trans (KeepsOthers.setCell _ _ _), hX.kp hX2, ⟨hp', _, false, hQ2, hX2⟩, (hB.trans (hb1.mono hB.size)).setCell (p := ⟨w.heap.size + 2, 0, none⟩) (by simp) _⟩
  case done =>
    rintro D ys W hD rfl ⟨⟨hne, t', sm, hQ, hX⟩, hB⟩ hK
    obtain ⟨hc0, hf0⟩ := hX.1.cells
    obtain ⟨hc1, hf1⟩ := hX.2.1.cells
    obtain ⟨hc2, hf2⟩ := hX.2.2.1.cells
    cases sm
    · have hRf : R = false := by
        cases R
        · rfl
        · have := hR.out.1 rfl
          exact absurd ⟨this.2.1, [], by rw [List.append_nil]; exact this.2.2⟩ (hQ.2.2 rfl)
      gi_wp2
      have hx1 := hX.2.1.set (.bool false)
      have hK' := (KeepsOthers.setCell W ⟨w.heap.size + 1, 0, none⟩ (.bool false)).same D _ hK rfl
      refine ⟨by simp, .inl ⟨_, _, rfl, run_takeDeferred hK', ?_⟩⟩
      have hc5 := cell_kept hx1.cells.1 (grownBy_putObj' _ D (.deferred none)) (fun r e => by cases e; exact ⟨_, hK', rfl⟩)
      refine ⟨.bool false, ?_, by rw [hRf], (hB.setCell (p := ⟨w.heap.size + 1, 0, none⟩) (by simp) _).trans (belowK_b (w := w) (Nat.le_refl _) _ D _ _ (by simp at hD; omega) hK' rfl rfl)⟩
      simp [results, Try.f13, go_sem, hc5]
    · by_cases hz : t'.size = 0
      · have hem := empty_yes t' hz
        have hRt : R = true := hR.out.2 ⟨hne, (hQ.2.1 rfl).1, by
          have := (hQ.2.1 rfl).2
          rw [show t'.data.toList = [] from List.eq_nil_of_length_eq_zero (by rw [← Lib.size_eq]; exact hz), List.append_nil] at this; exact this⟩
        gi_wp2
        have hx1 := hX.2.1.set (.bool true)
        have hK' := (KeepsOthers.setCell W ⟨w.heap.size + 1, 0, none⟩ (.bool true)).same D _ hK rfl
        refine ⟨by simp, .inl ⟨_, _, rfl, run_takeDeferred hK', ?_⟩⟩
        have hc5 := cell_kept hx1.cells.1 (grownBy_putObj' _ D (.deferred none)) (fun r e => by cases e; exact ⟨_, hK', rfl⟩)
        refine ⟨.bool true, ?_, by rw [hRt], (hB.setCell (p := ⟨w.heap.size + 1, 0, none⟩) (by simp) _).trans (belowK_b (w := w) (Nat.le_refl _) _ D _ _ (by simp at hD; omega) hK' rfl rfl)⟩
        simp [results, Try.f13, go_sem, hc5]
      · have hem := empty_no t' (by omega)
        have hRf : R = false := by
          cases R
          · rfl
          · have h1 := (hR.out.1 rfl).2.2
            have h2 := (hQ.2.1 rfl).2
            rw [h1] at h2
            have := congrArg List.length h2
            rw [List.length_append, ← Lib.size_eq t'] at this
            omega
        gi_wp2
        have hx1 := hX.2.1.set (.bool false)
        have hK' := (KeepsOthers.setCell W ⟨w.heap.size + 1, 0, none⟩ (.bool false)).same D _ hK rfl
        refine ⟨by simp, .inl ⟨_, _, rfl, run_takeDeferred hK', ?_⟩⟩
        have hc5 := cell_kept hx1.cells.1 (grownBy_putObj' _ D (.deferred none)) (fun r e => by cases e; exact ⟨_, hK', rfl⟩)
        refine ⟨.bool false, ?_, by rw [hRf], (hB.setCell (p := ⟨w.heap.size + 1, 0, none⟩) (by simp) _).trans (belowK_b (w := w) (Nat.le_refl _) _ D _ _ (by simp at hD; omega) hK' rfl rfl)⟩
        simp [results, Try.f13, go_sem, hc5]
  case stop =>
    rintro D c pre W hD hpre ⟨⟨rfl, ⟨y, hy, hy1⟩, hx1⟩, hB⟩ hK
    have hRf : R = false := by
      cases R
      · rfl
      · exact absurd hy1 ((hR.out.1 rfl).1 y (hpre.subset hy))
    gi_wp2
    refine ⟨by simp, .inl ⟨_, _, rfl, run_takeDeferred hK, ?_⟩⟩
    have hc5 := cell_kept hx1.cells.1 (grownBy_putObj' _ D (.deferred none)) (fun r e => by cases e; exact ⟨_, hK, rfl⟩)
    refine ⟨.bool false, ?_, by rw [hRf], hB.trans (belowK_b (w := w) (Nat.le_refl _) W D _ _ (by simp at hD; omega) hK rfl rfl)⟩
    simp [results, Try.f13, go_sem, hc5]
end Go.Proofs.Ytlckidgeooiboaa
