/- A row of bytes that the call itself made, told by its cells: '[]byte(s)' gives one; append keeps it. -/
import Derived.Test.YtghfinkckdbamaaRows
import Derived.WalkKit
import Derived.Below
import Derived.ArgAppend
import Derived.Deep.RegionLaw
import Derived.Lib.ConvBytes
namespace Go.Proofs.Lw
open Go.RowKit
variable {P : Program}

/-- the slice v holds the bytes l in a block from B on; its spare cells can be written -/
def BRow (w : World) (B : Nat) (v : Value) (l : List UInt8) : Prop :=
  ∃ g cap, v = .slice (some ⟨g, 0, none⟩) l.length cap ∧ B ≤ g ∧ g < w.heap.size ∧ l.length ≤ cap ∧
    (∀ j, j < l.length → w.cell? ⟨g, j, none⟩ = some (.int .u8 ((l.getD j 0).toNat : Nat))) ∧
    (∀ j, l.length ≤ j → j < cap → (w.cell? ⟨g, j, none⟩).isSome = true ∧ w.frozen? ⟨g, j, none⟩ = false)

theorem BRow.below {w w' : World} {B : Nat} {v : Value} {l : List UInt8} (h : BRow w B v l) (hb : Below w.heap.size w w') : BRow w' B v l := by
  obtain ⟨g, cap, hv, h1, h2, h3, h4, h5⟩ := h
  refine ⟨g, cap, hv, h1, Nat.lt_of_lt_of_le h2 hb.size, h3, fun j hj => ?_, fun j h h' => ?_⟩
  · rw [hb.cell (p := ⟨g, j, none⟩) h2]; exact h4 j hj
  · rw [hb.cell (p := ⟨g, j, none⟩) h2, hb.frozen (p := ⟨g, j, none⟩) h2]; exact h5 j h h'

theorem BRow.of_owns {w : World} {B e : Nat} {v : Value} {l : List UInt8} (h : w.ownsRow B e 1 v l.length (l.map fun b => Value.int .u8 (b.toNat : Nat))) (h0 : l ≠ []) : BRow w B v l := by
  obtain ⟨hl, h | ⟨g, cap, cur, hv, hB, hg, hc, hm, hsz, ht⟩⟩ := h
  · exact absurd (List.eq_nil_of_length_eq_zero h.2) h0
  · have hlt : g < w.heap.size := by
      rcases Nat.lt_or_ge g w.heap.size with h' | h'
      · exact h'
      · rw [Array.getElem?_eq_none h'] at hg; exact absurd hg (by simp)
    refine ⟨g, cap, hv, hB, hlt, hc, fun j hj => ?_, fun j hj hj' => ?_⟩
    · have e1 : cur[j]? = some (.int .u8 ((l.getD j 0).toNat : Nat)) := by
        have := congrArg (fun x => x[j]?) ht
        simp only [Nat.mul_one, List.getElem?_take, if_pos hj, List.getElem?_map, Array.getElem?_toList] at this
        rw [this, List.getElem?_eq_getElem hj]; simp [List.getD, List.getElem?_eq_getElem hj]
      simp [World.cell?, hg, e1]
    · have hj2 : j < cur.size := by omega
      refine ⟨by simp [World.cell?, hg, hj2], ?_⟩
      simp [World.frozen?, hg]

theorem BRow.made (w : World) (e : TypeId) (s : ByteArray) : BRow (Lib.bytesWorld w e s) w.heap.size (.slice (some ⟨w.heap.size, 0, none⟩) s.size (grownCap w s.size 0 e)) s.data.toList := by
  have hsz : s.data.toList.length = s.size := by simp
  have hcap := grownCap_ge w s.size 0 e
  refine ⟨w.heap.size, _, by rw [hsz], Nat.le_refl _, by rw [Lib.bytesWorld_size]; omega, by rw [hsz]; exact hcap, fun j hj => ?_, fun j h1 h2 => ?_⟩
  · exact Lib.bytesWorld_cell w e s j (by omega)
  · have hx : (Lib.bytesCells w e s).size = grownCap w s.size 0 e := by
      simp only [Lib.bytesCells, Array.size_append, Array.size_map, Array.size_replicate]
      have : s.data.size = s.size := rfl
      omega
    constructor
    · simp [World.cell?, Lib.bytesWorld_at_new, hx, h2]
    · simp only [World.frozen?, Lib.bytesWorld_at_new, hx]
      simp
      omega

theorem bytesWorld_below (w : World) (e : TypeId) (s : ByteArray) : Below w.heap.size w (Lib.bytesWorld w e s) := by
  refine ⟨?_, ?_, ?_, by rw [Lib.bytesWorld_size]; omega, fun k hk => Lib.bytesWorld_at_old w e s k hk⟩ <;> simp [Lib.bytesWorld, World.freeze, World.alloc, World.drew, -World.alloc_eq, -World.drew_eq]

/-- append of one byte -/
theorem run_append_brow (w : World) (B : Nat) (t ty e : TypeId) (i : TypeInfo) (ht : P.underlying t = some (.slice e)) (hi : P.info? e = some i) (hz : i.zero = some (.int .u8 0)) (hs : i.size = 1) (hb : i.bytes = 1)
    (v : Value) (l : List UInt8) (h : BRow w B v l) (hB : B ≤ w.heap.size) (a : Addr) (c : Nat) (b : UInt8) (hc : w.cell? a = some (.int .u8 (b.toNat : Nat))) (ha : a.spot = none) (hlen : l.length + 1 ≤ 1000000) :
    ∃ v' w', (Builtin.append_ #[t, t] ty #[v, .slice (some a) 1 c]).run P w = .ok v' w' ∧ BRow w' B v' (l ++ [b]) ∧ ∃ g, B ≤ g ∧ w.grownBy w' (some g) := by
  obtain ⟨g, cap, rfl, hg1, hg2, hg3, hg4, hg5⟩ := h
  have hnews : ∀ j u, [Value.int .u8 (b.toNat : Nat)][j]? = some u → w.cell? (a.add j) = some u := by
    intro j u hj
    match j, hj with
    | 0, hj =>
      obtain ⟨x, y, z⟩ := a
      simp at ha; subst ha
      simp [Addr.add] at hj ⊢
      rw [hc, hj]
  have hone : ∀ u ∈ [Value.int .u8 (b.toNat : Nat)], u.oneCell' = true := by intro u hu; simp at hu; subst hu; rfl
  by_cases hr : l.length + 1 ≤ cap
  · have hrun := run_append_room_cells (P := P) w t ty e i ht hi g 0 l.length cap a 1 c [.int .u8 (b.toNat : Nat)] (by simp [hs]) hnews hone hr
      (fun j hj => by simp at hj; subst hj; simp [hs]; exact (hg5 l.length (Nat.le_refl _) (by omega)).1) (fun j hj => by simp at hj; subst hj; simp [hs]; exact (hg5 l.length (Nat.le_refl _) (by omega)).2)
    simp only [hs, Nat.mul_one, Nat.zero_add] at hrun
    refine ⟨_, _, hrun, ⟨g, cap, by simp, hg1, by simp [World.setCells]; exact hg2, by simp; exact hr, fun j hj => ?_, fun j h1 h2 => ?_⟩, g, hg1, ?_⟩
    · simp at hj
      simp only [World.setCells]
      by_cases hjl : j = l.length
      · subst hjl
        obtain ⟨u, hu⟩ := Option.isSome_iff_exists.1 (hg5 l.length (Nat.le_refl _) (by omega)).1
        rw [World.cell?_setCell_same _ _ _ hu]; simp [List.getD]
      · rw [World.cell?_setCell_other _ _ _ _ (by intro hx; injection hx; omega), hg4 j (by omega)]
        simp [List.getD, List.getElem?_append_left (show j < l.length by omega)]
    · simp at h1
      simp only [World.setCells]
      rw [World.cell?_setCell_other _ _ _ _ (by intro hx; injection hx; omega), World.frozen?_setCell]
      exact hg5 j (by omega) h2
    · refine ⟨?_, ?_, ?_, ?_, fun k hk hne => ?_⟩
      · simp [World.setCells, World.setCell]
      · simp [World.setCells, World.setCell]
      · simp [World.setCells, World.setCell]
      · simp [World.setCells]
      · simp only [World.setCells]
        exact Below.heap_setCell w ⟨g, l.length, none⟩ _ k (fun e => hne (by simp at e; rw [e]))
  · have hcm : (l.length + 1) * 1 ≤ 140737488355328 := by omega
    obtain ⟨v', w', hrun, r1, r2⟩ := run_append_arg_grows (P := P) w t ty e i (.int .u8 0) 1 1 ht hi hz hs hb rfl (by decide) ⟨g, 0, none⟩ l.length cap (l.map fun b => Value.int .u8 (b.toNat : Nat)) (by simp)
      (fun j u hj => by
        rw [Addr.add_lit]
        simp only [Nat.zero_add]
        have hjl : j < l.length := by
          rcases Nat.lt_or_ge j l.length with h | h
          · exact h
          · rw [List.getElem?_eq_none (by simpa using h)] at hj; exact absurd hj (by simp)
        rw [hg4 j hjl]
        simp only [List.getElem?_map, List.getElem?_eq_getElem hjl, Option.map_some, Option.some.injEq] at hj
        rw [← hj]; simp [List.getD, List.getElem?_eq_getElem hjl])
      a 1 c [.int .u8 (b.toNat : Nat)] rfl hnews (by omega) (by unfold maxLen; omega) hcm
    refine ⟨v', w', hrun, ?_, ?_⟩
    · have : BRow w' w.heap.size v' (l ++ [b]) := BRow.of_owns (e := e) (by simpa using r1) (by simp)
      obtain ⟨g', cap', q1, q2, q3⟩ := this
      exact ⟨g', cap', q1, Nat.le_trans hB q2, q3⟩
    · exact ⟨w.heap.size, hB, r2.os, r2.tape, r2.output, r2.size, fun k hk _ => r2.block k hk (by simp)⟩

theorem below_of_grown {w w' : World} {B g : Nat} (h : w.grownBy w' (some g)) (hg : B ≤ g) (hB : B ≤ w.heap.size) : Below B w w' :=
  (Below.refl _ _).grown h hB (fun k hk => by simp at hk; omega)

theorem wpList_append_brow {w : World} {ops : Array Oper} {rest : List Oper} {o : Oper} {a : Act} {Q : Exit → Act → World → Prop}
    (hg : o.guard = none) (s x : Operand) (t : TypeId) (hop : o.op = Op.call { callee := Callee.builtin Builtin.append, args := #[s, x], argTypes := #[t, t] })
    (e : TypeId) (i : TypeInfo) (ht : P.underlying t = some (.slice e)) (hi : P.info? e = some i) (hz : i.zero = some (.int .u8 0)) (hsz : i.size = 1) (hby : i.bytes = 1)
    (B : Nat) (v : Value) (l : List UInt8) (hs : a.eval s = v) (h : BRow w B v l) (hB : B ≤ w.heap.size) (ad : Addr) (c : Nat) (b : UInt8) (hx : a.eval x = .slice (some ad) 1 c) (hc : w.cell? ad = some (.int .u8 (b.toNat : Nat))) (ha : ad.spot = none) (hlen : l.length + 1 ≤ 1000000)
    (hK : ∀ v' w', BRow w' B v' (l ++ [b]) → Below B w w' → wpList P ops Q rest (a.put o.dst v') w') : wpList P ops Q (o :: rest) a w := by
  refine wpList_plain hg fun K hK' => ?_
  obtain ⟨v', w', hrun, r1, g, hg1, r2⟩ := run_append_brow (P := P) w B t o.type e i ht hi hz hsz hby v l h hB ad c b hc ha hlen
  unfold Oper.wp
  simp [execOp, hop, resolve, invoke, builtin, hs, hx, hrun, Result.andThen]
  exact hK' _ _ (hK v' w' r1 (below_of_grown r2 hg1 hB))

theorem step_append_brow {ops : Array Oper} {o : Oper} {a : Act} {w : World} {K : Act → World → Prop} {Q : Exit → Act → World → Prop} {E : Prop}
    (hg : o.guard = none) (s x : Operand) (t : TypeId) (hop : o.op = Op.call { callee := Callee.builtin Builtin.append, args := #[s, x], argTypes := #[t, t] })
    (e : TypeId) (i : TypeInfo) (ht : P.underlying t = some (.slice e)) (hi : P.info? e = some i) (hz : i.zero = some (.int .u8 0)) (hsz : i.size = 1) (hby : i.bytes = 1)
    (B : Nat) (v : Value) (l : List UInt8) (hs : a.eval s = v) (h : BRow w B v l) (hB : B ≤ w.heap.size) (ad : Addr) (c : Nat) (b : UInt8) (hx : a.eval x = .slice (some ad) 1 c) (hc : w.cell? ad = some (.int .u8 (b.toNat : Nat))) (ha : ad.spot = none) (hlen : l.length + 1 ≤ 1000000)
    (hK : ∀ v' w', BRow w' B v' (l ++ [b]) → Below B w w' → K (a.put o.dst v') w') :
    if Region.wanted o (yielded ops a.tmps) = true then Oper.wp P o a w K Q else E := by
  have hw : Region.wanted o (yielded ops a.tmps) = true := by simp [Region.wanted, hg]
  rw [if_pos hw]
  obtain ⟨v', w', hrun, r1, g, hg1, r2⟩ := run_append_brow (P := P) w B t o.type e i ht hi hz hsz hby v l h hB ad c b hc ha hlen
  unfold Oper.wp
  simp [execOp, hop, resolve, invoke, builtin, hs, hx, hrun, Result.andThen]
  exact hK _ _ r1 (below_of_grown r2 hg1 hB)
end Go.Proofs.Lw
