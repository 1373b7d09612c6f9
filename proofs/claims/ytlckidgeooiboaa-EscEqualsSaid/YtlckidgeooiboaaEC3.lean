/- The walk of Text. -/
import Derived.Test.YtlckidgeooiboaaEC2
import Derived.Test.YtlckidgeooiboaaSb
namespace Go.Proofs.Ytlckidgeooiboaa
open Go.RowKit Go.Shelf Go.Proofs.Lw Go.Proofs.Le
set_option linter.unusedVariables false
attribute [local go_sem] Oper.semAt_some

/-- the bytes of the scalars of what was told -/
def textL : List (Int × Int) → List UInt8
  | [] => []
  | x :: L => (strOfNums (putN x.1)).data.toList ++ textL L
theorem textL_snoc (L : List (Int × Int)) (x : Int × Int) : textL (L ++ [x]) = textL L ++ (strOfNums (putN x.1)).data.toList := by
  induction L with
  | nil => simp [textL]
  | cons y L ih => simp [textL, ih]
theorem putN_len (c : Int) : (putN c).length ≤ 4 := by
  unfold putN
  repeat' split
  all_goals simp
theorem strOf_size (c : Int) : (strOfNums (putN c)).size ≤ 4 := by
  have := putN_len c
  rw [Lib.size_eq, strOfNums_data]; simpa using this
theorem textL_len (L : List (Int × Int)) : (textL L).length ≤ 4 * L.length := by
  induction L with
  | nil => simp [textL]
  | cons x L ih =>
    have := strOf_size x.1
    rw [Lib.size_eq] at this
    simp only [textL, List.length_append, List.length_cons]; omega
theorem evs_len (l : List UInt8) (f k : Nat) : (evs l f k).length ≤ f := by
  induction f generalizing k with
  | zero => simp [evs]
  | succ f ih =>
    rw [evs]
    split
    · simp only [List.length_cons]
      split
      · simp
      · have := ih (k + (charP (l.drop k)).2); omega
    · split <;> simp
theorem charsL_len (l : List UInt8) : (charsL l).length ≤ l.length + 1 := by
  unfold charsL
  split
  · exact evs_len _ _ _
  · simp
/-- a builder lies on where all cells lie on -/
theorem SB.same {B b : Nat} {l : List UInt8} {w w' : World} (h : SB B b l w) (hs : ∀ (k : Nat) (o : Obj), w.heap[k]? = some o → o.isCells = true → w'.heap[k]? = some o) : SB B b l w' := by
  have key : ∀ p bs, Lib.BuilderAtF 39 5 B b p bs w → Lib.BuilderAtF 39 5 B b p bs w' := by
    rintro p bs ⟨hB, v, hb, ⟨hl, h0 | ⟨g, cap, cur, fz, hv, hg, hc, r⟩⟩, hne⟩
    · exact ⟨hB, v, hs _ _ hb rfl, ⟨hl, .inl h0⟩, hne⟩
    · exact ⟨hB, v, hs _ _ hb rfl, ⟨hl, .inr ⟨g, cap, cur, fz, hv, hg, hs _ _ hc rfl, r⟩⟩, hne⟩
  exact h.elim (fun x => .inl (key _ _ x)) (fun x => .inr (key _ _ x))
theorem SB.below {B b : Nat} {l : List UInt8} {w w' : World} (h : SB B b l w) (hb : Below w.heap.size w w') : SB B b l w' :=
  h.same (fun k o hk _ => by rw [hb.block k (Array.getElem?_eq_some_iff.1 hk).1]; exact hk)
theorem SB.own {B b : Nat} {l : List UInt8} {w w' : World} {row : Option Nat} (h : SB B b l w) (hg : w.grownBy w' row) (hr : ∀ r, row = some r → ∃ o : Obj, w.heap[r]? = some o ∧ o.isCells = false) : SB B b l w' :=
  h.same (fun k o hk ho => by
    rw [hg.block k (Array.getElem?_eq_some_iff.1 hk).1 (fun e => by
      obtain ⟨o', h1, h2⟩ := hr k e.symm
      rw [hk] at h1; cases h1; rw [ho] at h2; exact absurd h2 (by decide))]
    exact hk)
theorem SB.other {B b q : Nat} {l : List UInt8} {w : World} {C : Array Value} {t : TypeId} {fz : Nat × Nat} (h : SB B b l w) (hq : w.heap[q]? = some (.cells C t fz)) (h5 : t ≠ 5) (h39 : t ≠ 39) (o : Nat) (v : Value) : SB B b l (w.setCell ⟨q, o, none⟩ v) := by
  have key : ∀ p bs, Lib.BuilderAtF 39 5 B b p bs w → Lib.BuilderAtF 39 5 B b p bs (w.setCell ⟨q, o, none⟩ v) := by
    have ne : ∀ (k : Nat) (C' : Array Value) (t' : TypeId) (fz' : Nat × Nat), w.heap[k]? = some (.cells C' t' fz') → t' ≠ t → k ≠ q := fun k C' t' fz' hk ht e => by
      subst e; rw [hq] at hk; injection hk with hk; injection hk with h1 h2 h3; exact ht h2.symm
    rintro p bs ⟨hB, v', hb, ⟨hl, h0 | ⟨g, cap, cur, fz', hv, hg, hc, r⟩⟩, hne⟩
    · exact ⟨hB, v', by rw [Below.heap_setCell _ _ _ _ (ne _ _ _ _ hb (Ne.symm h39))]; exact hb, ⟨hl, .inl h0⟩, hne⟩
    · exact ⟨hB, v', by rw [Below.heap_setCell _ _ _ _ (ne _ _ _ _ hb (Ne.symm h39))]; exact hb, ⟨hl, .inr ⟨g, cap, cur, fz', hv, hg, by rw [Below.heap_setCell _ _ _ _ (ne _ _ _ _ hc (Ne.symm h5))]; exact hc, r⟩⟩, hne⟩
  exact h.elim (fun x => .inl (key _ _ x)) (fun x => .inr (key _ _ x))
theorem keeps_below {w w' : World} (h : Below w.heap.size w w') : KeepsOthers w w' := ⟨h.size, fun k o hk _ => by rw [h.block k (Array.getElem?_eq_some_iff.1 hk).1]; exact hk⟩
theorem keeps_sb {B b : Nat} {l : List UInt8} {w w' : World} (hb : SB B b l w) (h : Keeps B b w w') : KeepsOthers w w' :=
  ⟨h.1.size, fun k o hk ho => h.2 k o hk (fun e => by
    injection e with e; subst e
    have hc : ∃ C t fz, w.heap[k]? = some (.cells C t fz) := hb.elim (fun ⟨_, v, h', _⟩ => ⟨_, _, _, h'⟩) (fun ⟨_, v, h', _⟩ => ⟨_, _, _, h'⟩)
    obtain ⟨C, t, fz, hc⟩ := hc
    rw [hk] at hc; injection hc with hc; subst hc; exact absurd ho (by simp [Obj.isCells])) (fun c fz e => by subst e; simp [Obj.isCells] at ho)⟩
/-- a box: a block of one cell -/
def Bx (W : World) (k : Nat) (v : Value) (t : TypeId) : Prop := W.heap[k]? = some (.cells #[v] t (0, 0))
theorem Bx.own {W W' : World} {k : Nat} {v : Value} {t : TypeId} {row : Option Nat} (h : Bx W k v t) (hg : W.grownBy W' row) (hr : ∀ r, row = some r → ∃ o : Obj, W.heap[r]? = some o ∧ o.isCells = false) : Bx W' k v t := by
  unfold Bx at *
  rw [hg.block k (Array.getElem?_eq_some_iff.1 h).1 (fun e => by
    obtain ⟨o', h1, h2⟩ := hr k e.symm
    rw [h] at h1; cases h1; simp [Obj.isCells] at h2)]
  exact h
theorem Bx.below {W W' : World} {k : Nat} {v : Value} {t : TypeId} (h : Bx W k v t) (hb : Below W.heap.size W W') : Bx W' k v t := by
  unfold Bx at *; rw [hb.block k (Array.getElem?_eq_some_iff.1 h).1]; exact h
theorem Bx.sb {W W' : World} {k B b : Nat} {v : Value} {t : TypeId} (h : Bx W k v t) (hk : Keeps B b W W') (hb : k ≠ b) (ht : t ≠ 5) : Bx W' k v t :=
  hk.2 k _ h (fun e => by injection e with e; exact hb e) (fun c fz e => by injection e with h1 h2 h3; exact ht h2)
theorem Bx.alloc {W : World} {k : Nat} {v : Value} {t : TypeId} (h : Bx W k v t) (o : Obj) : Bx (W.alloc o) k v t := h.below ((Below.refl _ _).alloc (Nat.le_refl _) _)
theorem Bx.new (W : World) (v : Value) (t : TypeId) : Bx (W.alloc (.cells #[v] t)) W.heap.size v t := World.alloc_heap_new W _
theorem Bx.cells {W : World} {k : Nat} {v : Value} {t : TypeId} (h : Bx W k v t) : W.cell? ⟨k, 0, none⟩ = some v ∧ W.frozen? ⟨k, 0, none⟩ = false := cell_of_box_l h
theorem Bx.set {W : World} {k : Nat} {v : Value} {t : TypeId} (h : Bx W k v t) (v' : Value) : Bx (W.setCell ⟨k, 0, none⟩ v') k v' t := by
  have hlt := (Array.getElem?_eq_some_iff.1 h).1
  unfold Bx World.setCell at *
  simp [Array.getElem?_modify, h]
theorem Bx.other {W : World} {k q : Nat} {v : Value} {t : TypeId} (h : Bx W k v t) (hq : k ≠ q) (v' : Value) : Bx (W.setCell ⟨q, 0, none⟩ v') k v t := by
  unfold Bx at *; rw [Below.heap_setCell _ _ _ _ hq]; exact h
/-- what stands through Text's loop -/
def TX (A : Nat) (s : ByteArray) (l : List UInt8) (W : World) : Prop :=
  Bx W A (.string ⟨#[]⟩) 9 ∧ Bx W (A + 1) (.int .i64 0) 27 ∧ Bx W (A + 3) (.string s) 9 ∧ SB A (A + 2) l W
theorem TX.own {A : Nat} {s : ByteArray} {l : List UInt8} {W W' : World} {row : Option Nat} (h : TX A s l W) (hg : W.grownBy W' row) (hr : ∀ r, row = some r → ∃ o : Obj, W.heap[r]? = some o ∧ o.isCells = false) : TX A s l W' :=
  ⟨h.1.own hg hr, h.2.1.own hg hr, h.2.2.1.own hg hr, h.2.2.2.own hg hr⟩
theorem TX.put {A : Nat} {s : ByteArray} {l l' : List UInt8} {W w1 w2 : World} (h : TX A s l W) (hb : Below W.heap.size W w1) (hS : SB A (A + 2) l' w2) (hk : Keeps A (A + 2) w1 w2) : TX A s l' w2 :=
  ⟨(h.1.below hb).sb hk (by omega) (by decide), (h.2.1.below hb).sb hk (by omega) (by decide), (h.2.2.1.below hb).sb hk (by omega) (by decide), hS⟩
theorem TX.kp {A : Nat} {s : ByteArray} {l l' : List UInt8} {W W' : World} (h : TX A s l W) (h' : TX A s l' W') : KpB (A + 3) W W' := fun v hv => by
  have := h.2.2.1.cells.1
  rw [this] at hv; injection hv with hv; subst hv; exact h'.2.2.1.cells.1
theorem TX.start (w : World) (s : ByteArray) : TX w.heap.size s [] ((((w.alloc (.cells #[.string ⟨#[]⟩] 9)).alloc (.cells #[.int .i64 0] 27)).alloc (.cells #[.pointer none, .slice none 0 0] 39)).alloc (.cells #[.string s] 9)) := by
  have h2 := Bx.new (w.alloc (.cells #[.string ⟨#[]⟩] 9)) (.int .i64 0) 27
  have h4 := Bx.new (((w.alloc (.cells #[.string ⟨#[]⟩] 9)).alloc (.cells #[.int .i64 0] 27)).alloc (.cells #[.pointer none, .slice none 0 0] 39)) (.string s) 9
  have h3 := World.alloc_heap_new ((w.alloc (.cells #[.string ⟨#[]⟩] 9)).alloc (.cells #[.int .i64 0] 27)) (.cells #[.pointer none, .slice none 0 0] 39)
  simp only [World.size_alloc] at h2 h3 h4
  have hS : SB w.heap.size (w.heap.size + 2) [] (((w.alloc (.cells #[.string ⟨#[]⟩] 9)).alloc (.cells #[.int .i64 0] 27)).alloc (.cells #[.pointer none, .slice none 0 0] 39)) :=
    .inl ⟨by omega, .slice none 0 0, h3, World.ownsRowF_nil _ _ _ _, by simp [Value.ownBlock]⟩
  exact ⟨((Bx.new w _ 9).alloc _ |>.alloc _ |>.alloc _), (h2.alloc _ |>.alloc _), h4, hS.below ((Below.refl _ _).alloc (Nat.le_refl _) _)⟩
set_option maxRecDepth 100000 in
set_option maxHeartbeats 1000000 in
theorem text_any (s : ByteArray) (hs : s.size ≤ 100000) (R : Bool) (hR : Hid (R = true ↔ ∀ y ∈ charsL s.data.toList, y.1 ≠ -1)) (T : ByteArray) (hT : Hid (T = if R = true then ⟨(textL (charsL s.data.toList)).toArray⟩ else ⟨#[]⟩)) (E : Int) (hE : Hid (E = if R = true then 0 else 3)) (w : World) :
    Calls Try.prog 11 #[.string s] w fun e w' => e = .returned (.tuple #[.string T, .int .i64 E]) ∧ Below w.heap.size w w' := by
  refine (callsIn_wide (n := 5)).1 ?_
  refine callsIn_of_wp_marks Try.func11 rfl trivial ?_ rfl
  simp only [Try.ntmps11, List.size_toArray, List.length_cons, List.length_nil, Nat.reduceAdd, Nat.reduceSub, Array.replicate_succ, Array.replicate_zero, List.push_toArray, List.append_toArray, List.nil_append, List.cons_append]
  gi_wp2_with (refine ⟨trivial, ?_⟩; gi_at_call 19; refine (chars_any _ s _).mono ?_; rintro e w' ⟨rfl, rfl⟩)
  have hB0 : Below w.heap.size w ((((w.alloc (.cells #[.string ⟨#[]⟩] 9)).alloc (.cells #[.int .i64 0] 27)).alloc (.cells #[.pointer none, .slice none 0 0] 39)).alloc (.cells #[.string s] 9)) :=
    ((((Below.refl _ w).alloc (Nat.le_refl _) _).alloc (by simp) _).alloc (by simp; omega) _).alloc (by simp; omega) _
  have hT0 := TX.start w s
  refine wpIn_rangeFunc_ownF rfl (by omega) (gf := 29) (lb := #[.pointer (some ⟨w.heap.size + 1 + 1 + 1, 0, none⟩)]) rfl trivial (enters_of Try.func29 (by kernel_rfl) rfl)
    (chars_stops _ (by omega) (w.heap.size + 3) s hs _ (by simp) hT0.2.2.1.cells.1) KpB_t KpB_b (Below.refl _ _) (fun _ => rfl)
    (fun pre W => ((∀ y ∈ pre, y.1 ≠ -1) ∧ TX w.heap.size s (textL pre) W) ∧ Below w.heap.size w W)
    (fun c pre W => (c = .ret ∧ (∃ y ∈ pre, y.1 = -1) ∧ Bx W w.heap.size (.string ⟨#[]⟩) 9 ∧ Bx W (w.heap.size + 1) (.int .i64 3) 27) ∧ Below w.heap.size w W)
    (OwnFrom.and (Own.from (fun s A B row hs hg hr => ⟨hs.1, hs.2.own hg hr⟩) _) (ownFrom_below (Nat.le_refl _) (by simp; omega)))
    (fun c => OwnFrom.and (Own.from (fun s A B row hs hg hr => ⟨hs.1, hs.2.1, hs.2.2.1.own hg hr, hs.2.2.2.own hg hr⟩) _) (ownFrom_below (Nat.le_refl _) (by simp; omega)))
    ⟨⟨by simp, hT0⟩, hB0⟩
    (fun x => { tmps := #[.string s, undef, .pointer (some ⟨w.heap.size, 0, none⟩), .pointer (some ⟨w.heap.size + 1, 0, none⟩), .pointer (some ⟨w.heap.size + 1 + 1, 0, none⟩), .int .i64 x.1, .string s, .func (.func 29) #[] #[.pointer (some ⟨w.heap.size + 1 + 1 + 1, 0, none⟩)], .int .i64 x.1, .int .i64 x.2, undef, undef, undef, undef, undef, undef], defers := [] }) ?assign ?body ?done ?stop
  case assign =>
    intro l x W K hK
    gi_wp2
    exact hK
  case body =>
    rintro l pre x W ⟨⟨hp, hT⟩, hB⟩ hlen
    have hA0 := hT.1.cells
    have hA1 := hT.2.1.cells
    obtain ⟨hc0, hf0⟩ := hA0
    obtain ⟨hc1, hf1⟩ := hA1
    by_cases hx : x.1 = -1
    · have hxb : (x.1 == -1) = true := by rw [beq_iff_eq]; exact hx
      gi_wp2
      exact ⟨(KeepsOthers.setCell _ _ _).trans (KeepsOthers.setCell _ _ _), ⟨rfl, ⟨x, List.mem_append.2 (.inr (by simp)), hx⟩, (hT.1.set _).other (by omega) _, (hT.2.1.other (by omega) _).set _⟩, (hB.setCell (p := ⟨w.heap.size, 0, none⟩) (by simp) _).setCell (p := ⟨w.heap.size + 1, 0, none⟩) (by simp) _⟩
    · have hxb : (x.1 == -1) = false := by rw [beq_eq_false_iff_ne]; exact hx
      have hTL : (textL pre).length ≤ 100000000 := by
        have h1 := textL_len pre
        have h2 := charsL_len s.data.toList
        rw [← Lib.size_eq] at h2
        omega
      have hPs : (strOfNums (putN x.1)).size ≤ 100000000 := by have := strOf_size x.1; omega
      gi_wp2_with (first
        | (refine ⟨trivial, ?_⟩; gi_at_call 21; refine (CallsIn.inRound l (callsIn_wide.2 (put_any x.1 _))).mono ?_; rintro e w1 ⟨rfl, hb1⟩; have hS1 := hT.2.2.2.below hb1)
        | (refine ⟨trivial, ?_⟩; gi_at_call 20; refine (CallsIn.inRound l (callsIn_wide.2 (sb_writeString w.heap.size (w.heap.size + 2) (textL pre) (strOfNums (putN x.1)) _ hS1 hTL hPs (by have := hB.size; have := hb1.size; omega)))).mono ?_; rintro e w2 ⟨rfl, hS2, hk2⟩))
      have hT2 := hT.put hb1 hS2 hk2
      exact ⟨(keeps_below hb1).trans (keeps_sb hS1 hk2), hT.kp hT2, ⟨fun y hy => (List.mem_append.1 hy).elim (hp y) (fun e e' => by simp at e; subst e; exact hx e'), by rw [textL_snoc]; exact hT2⟩, hB.trans ((hb1.mono hB.size).trans hk2.1)⟩
  case done =>
    rintro D ys W hD rfl ⟨⟨hne, hT1⟩, hB⟩ hK
    have hRt : R = true := hR.out.2 hne
    have hTt : T = ⟨(textL (charsL s.data.toList)).toArray⟩ := by rw [hT.out, if_pos hRt]
    have hEt : E = 0 := by rw [hE.out, if_pos hRt]
    gi_wp2_with (refine ⟨trivial, ?_⟩; gi_at_call 22; refine (callsIn_wide.2 (sb_string w.heap.size (w.heap.size + 2) (textL (charsL s.data.toList)) _ hT1.2.2.2 (by have := hB.size; omega))).mono ?_; rintro e w2 ⟨rfl, hS2, hk2⟩; have hx0 := hT1.1.sb hk2 (by omega) (by decide); have hx1 := hT1.2.1.sb hk2 (by omega) (by decide); have hK2 := (keeps_sb hT1.2.2.2 hk2).same D _ hK rfl; obtain ⟨hc0, hf0⟩ := hx0.cells; obtain ⟨hc1, hf1⟩ := hx1.cells)
    have y0 := (hx0.set (.string ⟨(textL (charsL s.data.toList)).toArray⟩)).other (show w.heap.size ≠ w.heap.size + 1 by omega) (.int .i64 0)
    have y1 := (hx1.other (show w.heap.size + 1 ≠ w.heap.size by omega) (.string ⟨(textL (charsL s.data.toList)).toArray⟩)).set (.int .i64 0)
    have hK' := ((KeepsOthers.setCell w2 ⟨w.heap.size, 0, none⟩ (.string ⟨(textL (charsL s.data.toList)).toArray⟩)).trans (KeepsOthers.setCell _ ⟨w.heap.size + 1, 0, none⟩ (.int .i64 0))).same D _ hK2 rfl
    have hBf := ((hB.trans hk2.1).setCell (p := ⟨w.heap.size, 0, none⟩) (Nat.le_refl _) (.string ⟨(textL (charsL s.data.toList)).toArray⟩)).setCell (p := ⟨w.heap.size + 1, 0, none⟩) (Nat.le_succ _) (.int .i64 0)
    refine ⟨by simp, .inl ⟨_, _, rfl, run_takeDeferred hK', ?_⟩⟩
    have hc5 := cell_kept y0.cells.1 (grownBy_putObj' _ D (.deferred none)) (fun r e => by cases e; exact ⟨_, hK', rfl⟩)
    have hc6 := cell_kept y1.cells.1 (grownBy_putObj' _ D (.deferred none)) (fun r e => by cases e; exact ⟨_, hK', rfl⟩)
    refine ⟨.tuple #[.string ⟨(textL (charsL s.data.toList)).toArray⟩, .int .i64 0], ?_, by rw [hTt, hEt], hBf.trans (belowK_b (w := w) (Nat.le_refl _) _ D _ _ (by simp at hD; omega) hK' rfl rfl)⟩
    simp [results, Try.f11, go_sem, hc5, hc6]
  case stop =>
    rintro D c pre W hD hpre ⟨⟨rfl, ⟨y, hy, hy1⟩, hx0, hx1⟩, hB⟩ hK
    have hRf : R = false := is_no hR.out (hpre.subset hy) hy1
    have hTt : T = ⟨#[]⟩ := by rw [hT.out, if_neg (by rw [hRf]; decide)]
    have hEt : E = 3 := by rw [hE.out, if_neg (by rw [hRf]; decide)]
    gi_wp2
    refine ⟨by simp, .inl ⟨_, _, rfl, run_takeDeferred hK, ?_⟩⟩
    have hc5 := cell_kept hx0.cells.1 (grownBy_putObj' _ D (.deferred none)) (fun r e => by cases e; exact ⟨_, hK, rfl⟩)
    have hc6 := cell_kept hx1.cells.1 (grownBy_putObj' _ D (.deferred none)) (fun r e => by cases e; exact ⟨_, hK, rfl⟩)
    refine ⟨.tuple #[.string ⟨#[]⟩, .int .i64 3], ?_, by rw [hTt, hEt], hB.trans (belowK_b (w := w) (Nat.le_refl _) W D _ _ (by simp at hD; omega) hK rfl rfl)⟩
    simp [results, Try.f11, go_sem, hc5, hc6]
end Go.Proofs.Ytlckidgeooiboaa
