/- The walk of Is. -/
import Derived.Test.YtlckidgeooiboaaEC1
import Derived.RangeFuncFrom
namespace Go.Proofs.Ytlckidgeooiboaa
open Go.RowKit Go.Shelf Go.Proofs.Lw Go.Proofs.Le
set_option linter.unusedVariables false
attribute [local go_sem] Oper.semAt_some

theorem cell_of_box_l {W : World} {B : Nat} {v : Value} {t : TypeId} (h : W.heap[B]? = some (.cells #[v] t (0, 0))) : W.cell? ⟨B, 0, none⟩ = some v ∧ W.frozen? ⟨B, 0, none⟩ = false := by
  constructor <;> simp [World.cell?, World.frozen?, h]
theorem cell_new_l (W : World) (v : Value) (t : TypeId) : (W.alloc (.cells #[v] t)).cell? ⟨W.heap.size, 0, none⟩ = some v ∧ (W.alloc (.cells #[v] t)).frozen? ⟨W.heap.size, 0, none⟩ = false :=
  cell_of_box_l (World.alloc_heap_new W _)
theorem cell_alloc_l {W : World} {a : Addr} {v : Value} (o : Obj) (h : W.cell? a = some v) : (W.alloc o).cell? a = some v := cell_kept h (World.grownBy_alloc W o none) (fun r e => by cases e)
theorem frozen_alloc_l {W : World} {a : Addr} {v : Value} (o : Obj) (h : W.cell? a = some v) (hf : W.frozen? a = false) : (W.alloc o).frozen? a = false := (frozen_kept h (World.grownBy_alloc W o none) (fun r e => by cases e)).trans hf
theorem is_no {L : List (Int × Int)} {R : Bool} {y : Int × Int} (hR : R = true ↔ ∀ y ∈ L, y.1 ≠ -1) (hy : y ∈ L) (h1 : y.1 = -1) : R = false := by
  cases R
  · rfl
  · exact absurd h1 (hR.1 rfl y hy)
set_option maxRecDepth 100000 in
set_option maxHeartbeats 1000000 in
theorem is_any (s : ByteArray) (hs : s.size ≤ 100000) (R : Bool) (hR : Hid (R = true ↔ ∀ y ∈ charsL s.data.toList, y.1 ≠ -1)) (w : World) :
    Calls Try.prog 10 #[.string s] w fun e w' => e = .returned (.bool R) ∧ Below w.heap.size w w' := by
  refine (callsIn_wide (n := 5)).1 ?_
  refine callsIn_of_wp_marks Try.func10 rfl trivial ?_ rfl
  simp only [Try.ntmps10, List.size_toArray, List.length_cons, List.length_nil, Nat.reduceAdd, Nat.reduceSub, Array.replicate_succ, Array.replicate_zero, List.push_toArray, List.append_toArray, List.nil_append, List.cons_append]
  gi_wp2_with (refine ⟨trivial, ?_⟩; gi_at_call 19; refine (chars_any _ s _).mono ?_; rintro e w' ⟨rfl, rfl⟩)
  have c1 := cell_new_l w (.bool false) 4
  have c2 := cell_new_l (w.alloc (.cells #[.bool false] 4)) (.string s) 9
  simp only [World.size_alloc] at c2
  have hB0 : Below w.heap.size w ((w.alloc (.cells #[.bool false] 4)).alloc (.cells #[.string s] 9)) := ((Below.refl _ w).alloc (Nat.le_refl _) _).alloc (by simp) _
  refine wpIn_rangeFunc_ownF rfl (by omega) (gf := 29) (lb := #[.pointer (some ⟨w.heap.size + 1, 0, none⟩)]) rfl trivial (enters_of Try.func29 (by kernel_rfl) rfl)
    (chars_stops _ (by omega) (w.heap.size + 1) s hs _ (by simp) c2.1) KpB_t KpB_b (Below.refl _ _) (fun _ => rfl)
    (fun pre W => ((∀ y ∈ pre, y.1 ≠ -1) ∧ W.cell? ⟨w.heap.size, 0, none⟩ = some (.bool false) ∧ W.frozen? ⟨w.heap.size, 0, none⟩ = false) ∧ Below w.heap.size w W)
    (fun c pre W => (c = .ret ∧ (∃ y ∈ pre, y.1 = -1) ∧ W.cell? ⟨w.heap.size, 0, none⟩ = some (.bool false)) ∧ Below w.heap.size w W)
    (OwnFrom.and (Own.from (fun s A B row hs hg hr => ⟨hs.1, cell_kept hs.2.1 hg hr, (frozen_kept hs.2.1 hg hr).trans hs.2.2⟩) _) (ownFrom_below (Nat.le_refl _) (by simp; omega)))
    (fun c => OwnFrom.and (Own.from (fun s A B row hs hg hr => ⟨hs.1, hs.2.1, cell_kept hs.2.2 hg hr⟩) _) (ownFrom_below (Nat.le_refl _) (by simp; omega)))
    ⟨⟨by simp, cell_alloc_l _ c1.1, frozen_alloc_l _ c1.1 c1.2⟩, hB0⟩
    (fun x => { tmps := #[.string s, undef, .pointer (some ⟨w.heap.size, 0, none⟩), .int .i64 x.1, .string s, .func (.func 29) #[] #[.pointer (some ⟨w.heap.size + 1, 0, none⟩)], .int .i64 x.1, .int .i64 x.2, undef, undef], defers := [] }) ?assign ?body ?done ?stop
  case assign =>
    intro l x W K hK
    gi_wp2
    exact hK
  case body =>
    rintro l pre x W ⟨⟨hp, hcr, hfr⟩, hB⟩ _
    by_cases hx : x.1 = -1
    · have hxb : (x.1 == -1) = true := by rw [beq_iff_eq]; exact hx
      gi_wp2
      exact ⟨KeepsOthers.setCell _ _ _, ⟨rfl, ⟨x, List.mem_append.2 (.inr (by simp)), hx⟩, World.cell?_setCell_same' _ _ _ (by rw [hcr]; rfl)⟩, hB.setCell (p := ⟨w.heap.size, 0, none⟩) (by simp) _⟩
    · have hxb : (x.1 == -1) = false := by rw [beq_eq_false_iff_ne]; exact hx
      gi_wp2
      exact ⟨KeepsOthers.refl _, fun v hv => hv, ⟨fun y hy => (List.mem_append.1 hy).elim (hp y) (fun e e' => by simp at e; subst e; exact hx e'), hcr, hfr⟩, hB⟩
  case done =>
    rintro D ys W hD rfl ⟨⟨hne, hcr, hfr⟩, hB⟩ hK
    gi_wp2
    have hK' := (KeepsOthers.setCell W ⟨w.heap.size, 0, none⟩ (.bool true)).same D _ hK rfl
    refine ⟨by simp, .inl ⟨_, _, rfl, run_takeDeferred hK', ?_⟩⟩
    have hc5 := cell_kept (World.cell?_setCell_same' W ⟨w.heap.size, 0, none⟩ (.bool true) (by rw [hcr]; rfl)) (grownBy_putObj' _ D (.deferred none)) (fun r e => by cases e; exact ⟨_, hK', rfl⟩)
    refine ⟨.bool true, ?_, by rw [hR.out.2 hne], (hB.setCell (p := ⟨w.heap.size, 0, none⟩) (by simp) _).trans (belowK_b (w := w) (Nat.le_refl _) _ D _ _ (by simp at hD; omega) hK' rfl rfl)⟩
    simp [results, Try.f10, go_sem, hc5]
  case stop =>
    rintro D c pre W hD hpre ⟨⟨rfl, ⟨y, hy, hy1⟩, hcr⟩, hB⟩ hK
    gi_wp2
    refine ⟨by simp, .inl ⟨_, _, rfl, run_takeDeferred hK, ?_⟩⟩
    have hc5 := cell_kept hcr (grownBy_putObj' _ D (.deferred none)) (fun r e => by cases e; exact ⟨_, hK, rfl⟩)
    refine ⟨.bool false, ?_, by rw [is_no hR.out (hpre.subset hy) hy1], hB.trans (belowK_b (w := w) (Nat.le_refl _) W D _ _ (by simp at hD; omega) hK rfl rfl)⟩
    simp [results, Try.f10, go_sem, hc5]
end Go.Proofs.Ytlckidgeooiboaa
