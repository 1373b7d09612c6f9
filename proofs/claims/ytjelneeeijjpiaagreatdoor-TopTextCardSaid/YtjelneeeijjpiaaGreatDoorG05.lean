/- TopText: walks and plain laws, part 5: lemmas on what the functions that the law comes to compute. -/
import Derived.Test.YtjelneeeijjpiaaGreatDoorRows
import Derived.Test.YtjelneeeijjpiaaGreatDoorG04
import Derived.WalkKit
import Derived.Lib.Hide
import Derived.Outline
import Derived.IntWalk
import Derived.Deep.Light
import Derived.Below
import Derived.Lib.Builder
import Derived.Lib.FrozenHead2
import Derived.Lib.OthersKept
import Derived.Laws.Externs
import Derived.Test.YtjelneeeijjpiaaGreatDoorG03
import Derived.Test.YtjelneeeijjpiaaGreatDoorG02
set_option linter.unusedVariables false
set_option linter.unusedSimpArgs false
section
set_option maxRecDepth 100000
namespace Go.Proofs.YtjelneeeijjpiaaGreatDoor.Tx
open Go.RowKit
theorem info47 : (Tryz.prog.info? 146).map (·.size) = some 2 := by kernel_rfl
theorem lies47 : liesAt Tryz.prog Tryz.prog.depth 146 (2 / Tryz.prog.cellsOf 146) 0 146 1 = true := by kernel_rfl
theorem info5b : (Tryz.prog.info? 5).map (fun i => (i.zero, i.size, i.bytes)) = some (some (.int .u8 0), 1, 1) := by kernel_rfl
theorem neB5 : (146 : TypeId) ≠ 5 := by decide
def SB (B b : Nat) (l : List UInt8) (w : World) : Prop := Lib.IsBuilderF 146 5 B b (Lib.byteCells l) w
def Keeps (B b : Nat) (w w' : World) : Prop := Below B w w' ∧ Lib.OthersKept 5 (some b) w w'
theorem Keeps.refl (B b : Nat) (w : World) : Keeps B b w w := ⟨Below.refl _ _, Lib.OthersKept.refl _ _ _⟩
theorem Keeps.trans {B b : Nat} {w w' w'' : World} (h : Keeps B b w w') (k : Keeps B b w' w'') : Keeps B b w w'' := ⟨h.1.trans k.1, h.2.trans k.2⟩
theorem check_fresh (b : Nat) (w : World) (h0 : w.cell? ⟨b, 0, none⟩ = some (.pointer none)) (hsh : w.shape? b = some (146, 2)) (hfz : w.frozen? ⟨b, 0, none⟩ = false) :
    Calls Tryz.prog 106 #[.pointer (some ⟨b, 0, none⟩)] w fun e w' => e = .returned (.tuple #[]) ∧ w' = w.setCell ⟨b, 0, none⟩ (.pointer (some ⟨b, 0, none⟩)) := by
  obtain ⟨j, hj, hjs⟩ := Option.map_eq_some_iff.1 info47
  go_enter Tryz.func106, Tryz.ntmps106
  go_wp2
  rw [Lib.run_to_unsafe w ⟨b, 0, none⟩ Tryz.underlying144 Tryz.underlying272 hj (by rw [hjs]; decide) hsh (Nat.zero_lt_succ 1)]
  simp only [Result.andThen]
  rw [Oper.upon_value]
  go_wp2
  rw [run_callFunc_extern Tryz.func157 (by kernel_rfl) (by kernel_rfl) (by kernel_rfl) (e := Extern.AbiNoEscape.same) (by kernel_rfl)]
  rw [Lib.run_noEscape]
  simp only [Result.andThen]
  rw [Oper.upon_value]
  go_wp2
  rw [Lib.run_from_unsafe w ⟨b, 0, none⟩ Tryz.underlying272 Tryz.underlying144 hj hsh lies47]
  simp only [Result.andThen]
  rw [Oper.upon_value]
  go_wp2
  go_end0
  exact ⟨rfl, rfl⟩
theorem check_used (b : Nat) (w : World) (h0 : w.cell? ⟨b, 0, none⟩ = some (.pointer (some ⟨b, 0, none⟩))) :
    Calls Tryz.prog 106 #[.pointer (some ⟨b, 0, none⟩)] w fun e w' => e = .returned (.tuple #[]) ∧ w' = w := by
  obtain ⟨j, hj, _⟩ := Option.map_eq_some_iff.1 info47
  go_enter Tryz.func106, Tryz.ntmps106
  go_wp2
  rw [Lib.run_neq_ptr_same w _ Tryz.underlying144 hj]
  go_wp2
  go_end0
  exact ⟨rfl, rfl⟩
theorem check_any (B b : Nat) (bs : List Value) (w : World) (h : Lib.IsBuilderF 146 5 B b bs w) :
    Calls Tryz.prog 106 #[.pointer (some ⟨b, 0, none⟩)] w fun e w' => e = .returned (.tuple #[]) ∧ (Lib.BuilderAtF 146 5 B b (.pointer (some ⟨b, 0, none⟩)) bs w' ∧ Below B w w' ∧ Lib.OthersKept 5 (some b) w w') := by
  rcases h with h | h
  · refine (check_fresh b w h.cell0 h.shape h.frozen0).mono ?_
    rintro e w' ⟨rfl, rfl⟩
    exact ⟨rfl, h.used _, (Below.refl B w).setCell (p := ⟨b, 0, none⟩) h.1 _, (Lib.OthersKept.refl _ _ w).setCell ⟨b, 0, none⟩ rfl _⟩
  · refine (check_used b w h.cell0).mono ?_
    rintro e w' ⟨rfl, rfl⟩
    exact ⟨rfl, h, Below.refl B _, Lib.OthersKept.refl _ _ _⟩
set_option maxHeartbeats 2000000 in
set_option maxRecDepth 100000 in
theorem writeByte_raw (B b : Nat) (bs : List Value) (c : Int) (w : World) (h : Lib.IsBuilderF 146 5 B b bs w) (hlen : bs.length + 1 ≤ 140737488355328) (_hBw : B ≤ w.heap.size) :
    Calls Tryz.prog 69 #[.pointer (some ⟨b, 0, none⟩), .int .u8 c] w fun e w' => e = .returned .nilIface ∧ (Lib.BuilderAtF 146 5 B b (.pointer (some ⟨b, 0, none⟩)) (bs ++ [.int .u8 c]) w' ∧ Below B w w' ∧ Lib.OthersKept 5 (some b) w w') := by
  obtain ⟨i0, hi, hz0, hz1, hz2⟩ := info_parts info5b
  go_enter Tryz.func69, Tryz.ntmps69
  go_wp2_with (go_at_call 106; refine (check_any B b bs _ h).mono ?_)
  rintro e w1 ⟨rfl, h1, hb1, hk1⟩
  obtain ⟨hB, v, hbk, hown, hne⟩ := h1
  have c0 : w1.cell? ⟨b, 0, none⟩ = some (.pointer (some ⟨b, 0, none⟩)) := by rw [Lib.cell_of_heap hbk]; rfl
  have c1 : w1.cell? ⟨b, 1, none⟩ = some v := by rw [Lib.cell_of_heap hbk]; rfl
  go_wp2_with (at_builtin; refine wpList_append_ownF _ rfl _ _ 29 rfl B 5 i0 (.int .u8 0) 1 1 Tryz.underlying29 hi hz0 hz1 hz2 rfl (by decide) _ _ _ rfl (hown.alloc _) ⟨w1.heap.size, 0, none⟩ 1 1 [.int .u8 c] rfl rfl ?c1 ?c2 ?c3 ?c4 ?c5 ?_)
  case c1 =>
    intro j u hj
    match j, hj with
    | 0, hj => simp at hj; subst hj; simp [Addr.add]
  case c2 => intro u hu; simp at hu; subst hu; rfl
  case c3 => unfold maxLen; omega
  case c4 => omega
  case c5 => have := hb1.size; simp; omega
  intro v' w2 hown' hgrow _
  have hlt : b < w1.heap.size := by
    rcases Nat.lt_or_ge b w1.heap.size with h' | h'
    · exact h'
    · simp [Array.getElem?_eq_none h'] at hbk
  have hb2 : w2.heap[b]? = some (.cells #[.pointer (some ⟨b, 0, none⟩), v] 146 (0, 0)) := by
    rw [hgrow.block b (by simp; omega) (fun e => hne e.symm), Lib.alloc_old w1 _ b hlt]
    exact hbk
  have d0 : w2.cell? ⟨b, 0, none⟩ = some (.pointer (some ⟨b, 0, none⟩)) := by rw [Lib.cell_of_heap hb2]; rfl
  have d1 : w2.cell? ⟨b, 1, none⟩ = some v := by rw [Lib.cell_of_heap hb2]; rfl
  have f1 : w2.frozen? ⟨b, 1, none⟩ = false := Lib.frozen_of_heap hb2 1
  obtain ⟨g, cap, rfl⟩ : ∃ g cap, v' = .slice (some ⟨g, 0, none⟩) (bs.length + 1) cap := by
    rcases hown'.2 with ⟨_, h0⟩ | ⟨g, cap, cur, fz, hv, _⟩
    · omega
    · exact ⟨g, cap, hv⟩
  go_wp2
  go_ret
  refine ⟨rfl, ?_, ?_, ((hk1.alloc _).grown hgrow (Lib.ownsRowF_kind (hown.alloc _))).setCell ⟨b, 1, none⟩ rfl _⟩
  · exact Lib.BuilderAtF.put (T := 146) (e := 5) hB hb2 (bs' := bs ++ [.int .u8 c]) (by simpa using hown') neB5
  · exact ((hb1.alloc (by have := hb1.size; omega) _).grown hgrow (by have := hb1.size; simp; omega) (fun k hk => (hown.lt k hk).1)).setCell (p := ⟨b, 1, none⟩) hB _
theorem byteCells_snoc (l : List UInt8) (c : Int) (h0 : 0 ≤ c) (h1 : c ≤ 255) : Lib.byteCells l ++ [.int .u8 c] = Lib.byteCells (l ++ [UInt8.ofNat c.toNat]) := by
  have e : ((UInt8.ofNat c.toNat).toNat : Int) = c := by rw [UInt8.toNat_ofNat', Nat.mod_eq_of_lt (by omega)]; omega
  simp only [Lib.byteCells, List.map_append, List.map_cons, List.map_nil, e]
theorem byteCells_len (l : List UInt8) : (Lib.byteCells l).length = l.length := by simp [Lib.byteCells]
theorem sb_writeByte (B b : Nat) (l : List UInt8) (c : Int) (w : World) (h : SB B b l w) (hlen : l.length ≤ 100000000) (hBw : B ≤ w.heap.size) (h0 : 0 ≤ c) (h1 : c ≤ 255) :
    Calls Tryz.prog 69 #[.pointer (some ⟨b, 0, none⟩), .int .u8 c] w fun e w' => e = .returned .nilIface ∧ SB B b (l ++ [UInt8.ofNat c.toNat]) w' ∧ Keeps B b w w' := by
  refine (writeByte_raw B b _ c w h (by rw [byteCells_len]; omega) hBw).mono ?_
  rintro e w' ⟨rfl, h1', h2, h3⟩
  rw [byteCells_snoc l c h0 h1] at h1'
  exact ⟨rfl, .inr h1', h2, h3⟩
theorem sb_writeU8 (B b : Nat) (l : List UInt8) (c : UInt8) (w : World) (h : SB B b l w) (hlen : l.length ≤ 100000000) (hBw : B ≤ w.heap.size) :
    Calls Tryz.prog 69 #[.pointer (some ⟨b, 0, none⟩), .int .u8 (c.toNat : Nat)] w fun e w' => e = .returned .nilIface ∧ SB B b (l ++ [c]) w' ∧ Keeps B b w w' := by
  have := sb_writeByte B b l (c.toNat : Nat) w h hlen hBw (by omega) (by have := c.toNat_lt; omega)
  simpa using this
set_option maxHeartbeats 2000000 in
set_option maxRecDepth 100000 in
theorem writeString_raw (B b : Nat) (bs : List Value) (s : ByteArray) (w : World) (h : Lib.IsBuilderF 146 5 B b bs w) (hlen : bs.length + s.size ≤ 140737488355328) (hBw : B ≤ w.heap.size) :
    Calls Tryz.prog 67 #[.pointer (some ⟨b, 0, none⟩), .string s] w fun e w' => e = .returned (.tuple #[.int .i64 s.size, .nilIface]) ∧ (Lib.BuilderAtF 146 5 B b (.pointer (some ⟨b, 0, none⟩)) (bs ++ Lib.strCells s) w' ∧ Below B w w' ∧ Lib.OthersKept 5 (some b) w w') := by
  obtain ⟨i0, hi, hz0, hz1, hz2⟩ := info_parts info5b
  go_enter Tryz.func67, Tryz.ntmps67
  go_wp2_with (go_at_call 106; refine (check_any B b bs _ h).mono ?_)
  rintro e w1 ⟨rfl, h1, hb1, hk1⟩
  obtain ⟨hB, v, hbk, hown, hne⟩ := h1
  have c0 : w1.cell? ⟨b, 0, none⟩ = some (.pointer (some ⟨b, 0, none⟩)) := by rw [Lib.cell_of_heap hbk]; rfl
  have c1 : w1.cell? ⟨b, 1, none⟩ = some v := by rw [Lib.cell_of_heap hbk]; rfl
  go_wp2_with (at_builtin; refine Lib.wpList_append_own_stringF _ rfl _ _ 29 9 rfl B 5 i0 Tryz.underlying29 Tryz.underlying9 hi hz0 hz1 hz2 _ _ _ rfl hown s rfl ?c3 ?c4 ?c5 ?_)
  case c3 => unfold maxLen; omega
  case c4 => omega
  case c5 => have := hb1.size; omega
  intro v' w2 hown' hgrow _
  have hlt : b < w1.heap.size := by
    rcases Nat.lt_or_ge b w1.heap.size with h' | h'
    · exact h'
    · simp [Array.getElem?_eq_none h'] at hbk
  have hb2 : w2.heap[b]? = some (.cells #[.pointer (some ⟨b, 0, none⟩), v] 146 (0, 0)) := by
    rw [hgrow.block b hlt (fun e => hne e.symm)]
    exact hbk
  have d0 : w2.cell? ⟨b, 0, none⟩ = some (.pointer (some ⟨b, 0, none⟩)) := by rw [Lib.cell_of_heap hb2]; rfl
  have d1 : w2.cell? ⟨b, 1, none⟩ = some v := by rw [Lib.cell_of_heap hb2]; rfl
  have f1 : w2.frozen? ⟨b, 1, none⟩ = false := Lib.frozen_of_heap hb2 1
  obtain ⟨ao, n', cap, rfl⟩ : ∃ ao n' cap, v' = .slice ao n' cap := by
    rcases hown'.2 with ⟨hv, _⟩ | ⟨g, cap, cur, fz, hv, _⟩
    · exact ⟨_, _, _, hv⟩
    · exact ⟨_, _, _, hv⟩
  go_wp2
  go_ret2
  refine ⟨rfl, ?_, ?_, (hk1.grown hgrow (Lib.ownsRowF_kind hown)).setCell ⟨b, 1, none⟩ rfl _⟩
  · exact Lib.BuilderAtF.put (T := 146) (e := 5) hB hb2 (bs' := bs ++ Lib.strCells s) (by simpa [Lib.strCells_length] using hown') neB5
  · exact (hb1.grown hgrow (by have := hb1.size; omega) (fun k hk => (hown.lt k hk).1)).setCell (p := ⟨b, 1, none⟩) hB _
theorem sb_writeString (B b : Nat) (l : List UInt8) (s : ByteArray) (w : World) (h : SB B b l w) (hlen : l.length ≤ 100000000) (hs : s.size ≤ 100000000) (hBw : B ≤ w.heap.size) :
    Calls Tryz.prog 67 #[.pointer (some ⟨b, 0, none⟩), .string s] w fun e w' => e = .returned (.tuple #[.int .i64 s.size, .nilIface]) ∧ SB B b (l ++ s.data.toList) w' ∧ Keeps B b w w' := by
  refine (writeString_raw B b _ s w h (by rw [byteCells_len]; omega) hBw).mono ?_
  rintro e w' ⟨rfl, h1', h2, h3⟩
  have e1 : Lib.byteCells l ++ Lib.strCells s = Lib.byteCells (l ++ s.data.toList) := by simp [Lib.byteCells, Lib.strCells]
  rw [e1] at h1'
  exact ⟨rfl, .inr h1', h2, h3⟩
theorem sb_string (B b : Nat) (l : List UInt8) (w : World) (h : SB B b l w) (hBw : B ≤ w.heap.size) :
    Calls Tryz.prog 70 #[.pointer (some ⟨b, 0, none⟩)] w fun e w' => e = .returned (.string ⟨l.toArray⟩) ∧ SB B b l w' ∧ Keeps B b w w' :=
  (Tryz.Builder_String_any_k B b l w h hBw).mono fun _ _ ⟨he, h1, h2, h3⟩ => ⟨he, h1, h2, h3⟩
end Go.Proofs.YtjelneeeijjpiaaGreatDoor.Tx
end
section
set_option maxRecDepth 100000
namespace Go.Proofs.YtjelneeeijjpiaaGreatDoor.Tx
open Go.RowKit Go.Shelf Go.Proofs.Lw Go.Proofs.Le
attribute [local go_sem] Oper.semAt_some
def textL : List (Int × Int) → List UInt8
  | [] => []
  | x :: L => (strOfNums (putN x.1)).data.toList ++ textL L
theorem textL_snoc (L : List (Int × Int)) (x : Int × Int) : textL (L ++ [x]) = textL L ++ (strOfNums (putN x.1)).data.toList := by
  induction L with
  | nil => simp [textL]
  | cons y L ih => simp [textL, ih]
theorem putN_len (c : Int) : (putN c).length ≤ 4 := by
  unfold putN
  repeat' split
  all_goals simp
theorem strOf_size (c : Int) : (strOfNums (putN c)).size ≤ 4 := by
  have := putN_len c
  rw [Lib.size_eq, strOfNums_data]; simpa using this
theorem textL_len (L : List (Int × Int)) : (textL L).length ≤ 4 * L.length := by
  induction L with
  | nil => simp [textL]
  | cons x L ih =>
    have := strOf_size x.1
    rw [Lib.size_eq] at this
    simp only [textL, List.length_append, List.length_cons]; omega
theorem evs_len (l : List UInt8) (f k : Nat) : (evs l f k).length ≤ f := by
  induction f generalizing k with
  | zero => simp [evs]
  | succ f ih =>
    rw [evs]
    split
    · simp only [List.length_cons]
      split
      · simp
      · have := ih (k + (charP (l.drop k)).2); omega
    · split <;> simp
theorem charsL_len (l : List UInt8) : (charsL l).length ≤ l.length + 1 := by
  unfold charsL
  split
  · exact evs_len _ _ _
  · simp
theorem SB.same {B b : Nat} {l : List UInt8} {w w' : World} (h : SB B b l w) (hs : ∀ (k : Nat) (o : Obj), w.heap[k]? = some o → o.isCells = true → w'.heap[k]? = some o) : SB B b l w' := by
  have key : ∀ p bs, Lib.BuilderAtF 146 5 B b p bs w → Lib.BuilderAtF 146 5 B b p bs w' := by
    rintro p bs ⟨hB, v, hb, ⟨hl, h0 | ⟨g, cap, cur, fz, hv, hg, hc, r⟩⟩, hne⟩
    · exact ⟨hB, v, hs _ _ hb rfl, ⟨hl, .inl h0⟩, hne⟩
    · exact ⟨hB, v, hs _ _ hb rfl, ⟨hl, .inr ⟨g, cap, cur, fz, hv, hg, hs _ _ hc rfl, r⟩⟩, hne⟩
  exact h.elim (fun x => .inl (key _ _ x)) (fun x => .inr (key _ _ x))
theorem SB.below {B b : Nat} {l : List UInt8} {w w' : World} (h : SB B b l w) (hb : Below w.heap.size w w') : SB B b l w' :=
  h.same (fun k o hk _ => by rw [hb.block k (Array.getElem?_eq_some_iff.1 hk).1]; exact hk)
theorem SB.own {B b : Nat} {l : List UInt8} {w w' : World} {row : Option Nat} (h : SB B b l w) (hg : w.grownBy w' row) (hr : ∀ r, row = some r → ∃ o : Obj, w.heap[r]? = some o ∧ o.isCells = false) : SB B b l w' :=
  h.same (fun k o hk ho => by
    rw [hg.block k (Array.getElem?_eq_some_iff.1 hk).1 (fun e => by
      obtain ⟨o', h1, h2⟩ := hr k e.symm
      rw [hk] at h1; cases h1; rw [ho] at h2; exact absurd h2 (by decide))]
    exact hk)
theorem SB.other {B b q : Nat} {l : List UInt8} {w : World} {C : Array Value} {t : TypeId} {fz : Nat × Nat} (h : SB B b l w) (hq : w.heap[q]? = some (.cells C t fz)) (h5 : t ≠ 5) (h39 : t ≠ 146) (o : Nat) (v : Value) : SB B b l (w.setCell ⟨q, o, none⟩ v) := by
  have key : ∀ p bs, Lib.BuilderAtF 146 5 B b p bs w → Lib.BuilderAtF 146 5 B b p bs (w.setCell ⟨q, o, none⟩ v) := by
    have ne : ∀ (k : Nat) (C' : Array Value) (t' : TypeId) (fz' : Nat × Nat), w.heap[k]? = some (.cells C' t' fz') → t' ≠ t → k ≠ q := fun k C' t' fz' hk ht e => by
      subst e; rw [hq] at hk; injection hk with hk; injection hk with h1 h2 h3; exact ht h2.symm
    rintro p bs ⟨hB, v', hb, ⟨hl, h0 | ⟨g, cap, cur, fz', hv, hg, hc, r⟩⟩, hne⟩
    · exact ⟨hB, v', by rw [Below.heap_setCell _ _ _ _ (ne _ _ _ _ hb (Ne.symm h39))]; exact hb, ⟨hl, .inl h0⟩, hne⟩
    · exact ⟨hB, v', by rw [Below.heap_setCell _ _ _ _ (ne _ _ _ _ hb (Ne.symm h39))]; exact hb, ⟨hl, .inr ⟨g, cap, cur, fz', hv, hg, by rw [Below.heap_setCell _ _ _ _ (ne _ _ _ _ hc (Ne.symm h5))]; exact hc, r⟩⟩, hne⟩
  exact h.elim (fun x => .inl (key _ _ x)) (fun x => .inr (key _ _ x))
theorem keeps_below {w w' : World} (h : Below w.heap.size w w') : KeepsOthers w w' := ⟨h.size, fun k o hk _ => by rw [h.block k (Array.getElem?_eq_some_iff.1 hk).1]; exact hk⟩
theorem keeps_sb {B b : Nat} {l : List UInt8} {w w' : World} (hb : SB B b l w) (h : Keeps B b w w') : KeepsOthers w w' :=
  ⟨h.1.size, fun k o hk ho => h.2 k o hk (fun e => by
    injection e with e; subst e
    have hc : ∃ C t fz, w.heap[k]? = some (.cells C t fz) := hb.elim (fun ⟨_, v, h', _⟩ => ⟨_, _, _, h'⟩) (fun ⟨_, v, h', _⟩ => ⟨_, _, _, h'⟩)
    obtain ⟨C, t, fz, hc⟩ := hc
    rw [hk] at hc; injection hc with hc; subst hc; exact absurd ho (by simp [Obj.isCells])) (fun c fz e => by subst e; simp [Obj.isCells] at ho)⟩
def Bx (W : World) (k : Nat) (v : Value) (t : TypeId) : Prop := W.heap[k]? = some (.cells #[v] t (0, 0))
theorem Bx.own {W W' : World} {k : Nat} {v : Value} {t : TypeId} {row : Option Nat} (h : Bx W k v t) (hg : W.grownBy W' row) (hr : ∀ r, row = some r → ∃ o : Obj, W.heap[r]? = some o ∧ o.isCells = false) : Bx W' k v t := by
  unfold Bx at *
  rw [hg.block k (Array.getElem?_eq_some_iff.1 h).1 (fun e => by
    obtain ⟨o', h1, h2⟩ := hr k e.symm
    rw [h] at h1; cases h1; simp [Obj.isCells] at h2)]
  exact h
theorem Bx.below {W W' : World} {k : Nat} {v : Value} {t : TypeId} (h : Bx W k v t) (hb : Below W.heap.size W W') : Bx W' k v t := by
  unfold Bx at *; rw [hb.block k (Array.getElem?_eq_some_iff.1 h).1]; exact h
theorem Bx.sb {W W' : World} {k B b : Nat} {v : Value} {t : TypeId} (h : Bx W k v t) (hk : Keeps B b W W') (hb : k ≠ b) (ht : t ≠ 5) : Bx W' k v t :=
  hk.2 k _ h (fun e => by injection e with e; exact hb e) (fun c fz e => by injection e with h1 h2 h3; exact ht h2)
theorem Bx.alloc {W : World} {k : Nat} {v : Value} {t : TypeId} (h : Bx W k v t) (o : Obj) : Bx (W.alloc o) k v t := h.below ((Below.refl _ _).alloc (Nat.le_refl _) _)
theorem Bx.new (W : World) (v : Value) (t : TypeId) : Bx (W.alloc (.cells #[v] t)) W.heap.size v t := World.alloc_heap_new W _
theorem Bx.cells {W : World} {k : Nat} {v : Value} {t : TypeId} (h : Bx W k v t) : W.cell? ⟨k, 0, none⟩ = some v ∧ W.frozen? ⟨k, 0, none⟩ = false := cell_of_box_l h
theorem Bx.set {W : World} {k : Nat} {v : Value} {t : TypeId} (h : Bx W k v t) (v' : Value) : Bx (W.setCell ⟨k, 0, none⟩ v') k v' t := by
  have hlt := (Array.getElem?_eq_some_iff.1 h).1
  unfold Bx World.setCell at *
  simp [Array.getElem?_modify, h]
theorem Bx.other {W : World} {k q : Nat} {v : Value} {t : TypeId} (h : Bx W k v t) (hq : k ≠ q) (v' : Value) : Bx (W.setCell ⟨q, 0, none⟩ v') k v t := by
  unfold Bx at *; rw [Below.heap_setCell _ _ _ _ hq]; exact h
def TX (A : Nat) (s : ByteArray) (l : List UInt8) (W : World) : Prop :=
  Bx W A (.string ⟨#[]⟩) 9 ∧ Bx W (A + 1) (.int .i64 0) 37 ∧ Bx W (A + 3) (.string s) 9 ∧ SB A (A + 2) l W
theorem TX.own {A : Nat} {s : ByteArray} {l : List UInt8} {W W' : World} {row : Option Nat} (h : TX A s l W) (hg : W.grownBy W' row) (hr : ∀ r, row = some r → ∃ o : Obj, W.heap[r]? = some o ∧ o.isCells = false) : TX A s l W' :=
  ⟨h.1.own hg hr, h.2.1.own hg hr, h.2.2.1.own hg hr, h.2.2.2.own hg hr⟩
theorem TX.put {A : Nat} {s : ByteArray} {l l' : List UInt8} {W w1 w2 : World} (h : TX A s l W) (hb : Below W.heap.size W w1) (hS : SB A (A + 2) l' w2) (hk : Keeps A (A + 2) w1 w2) : TX A s l' w2 :=
  ⟨(h.1.below hb).sb hk (by omega) (by decide), (h.2.1.below hb).sb hk (by omega) (by decide), (h.2.2.1.below hb).sb hk (by omega) (by decide), hS⟩
theorem TX.kp {A : Nat} {s : ByteArray} {l l' : List UInt8} {W W' : World} (h : TX A s l W) (h' : TX A s l' W') : KpB (A + 3) W W' := fun v hv => by
  have := h.2.2.1.cells.1
  rw [this] at hv; injection hv with hv; subst hv; exact h'.2.2.1.cells.1
theorem TX.start (w : World) (s : ByteArray) : TX w.heap.size s [] ((((w.alloc (.cells #[.string ⟨#[]⟩] 9)).alloc (.cells #[.int .i64 0] 37)).alloc (.cells #[.pointer none, .slice none 0 0] 146)).alloc (.cells #[.string s] 9)) := by
  have h2 := Bx.new (w.alloc (.cells #[.string ⟨#[]⟩] 9)) (.int .i64 0) 37
  have h4 := Bx.new (((w.alloc (.cells #[.string ⟨#[]⟩] 9)).alloc (.cells #[.int .i64 0] 37)).alloc (.cells #[.pointer none, .slice none 0 0] 146)) (.string s) 9
  have h3 := World.alloc_heap_new ((w.alloc (.cells #[.string ⟨#[]⟩] 9)).alloc (.cells #[.int .i64 0] 37)) (.cells #[.pointer none, .slice none 0 0] 146)
  simp only [World.size_alloc] at h2 h3 h4
  have hS : SB w.heap.size (w.heap.size + 2) [] (((w.alloc (.cells #[.string ⟨#[]⟩] 9)).alloc (.cells #[.int .i64 0] 37)).alloc (.cells #[.pointer none, .slice none 0 0] 146)) :=
    .inl ⟨by omega, .slice none 0 0, h3, World.ownsRowF_nil _ _ _ _, by simp [Value.ownBlock]⟩
  exact ⟨((Bx.new w _ 9).alloc _ |>.alloc _ |>.alloc _), (h2.alloc _ |>.alloc _), h4, hS.below ((Below.refl _ _).alloc (Nat.le_refl _) _)⟩
set_option maxRecDepth 100000 in
set_option maxHeartbeats 1000000 in
theorem text_any (s : ByteArray) (hs : s.size ≤ 100000) (R : Bool) (hR : Hid (R = true ↔ ∀ y ∈ charsL s.data.toList, y.1 ≠ -1)) (T : ByteArray) (hT : Hid (T = if R = true then ⟨(textL (charsL s.data.toList)).toArray⟩ else ⟨#[]⟩)) (E : Int) (hE : Hid (E = if R = true then 0 else 3)) (w : World) :
    Calls Tryz.prog 104 #[.string s] w fun e w' => e = .returned (.tuple #[.string T, .int .i64 E]) ∧ Below w.heap.size w w' := by
  refine (callsIn_wide (n := 5)).1 ?_
  refine callsIn_of_wp_marks Tryz.func104 rfl trivial ?_ rfl
  simp only [Tryz.ntmps104, List.size_toArray, List.length_cons, List.length_nil, Nat.reduceAdd, Nat.reduceSub, Array.replicate_succ, Array.replicate_zero, List.push_toArray, List.append_toArray, List.nil_append, List.cons_append]
  gi_wp2_with (refine ⟨trivial, ?_⟩; gi_at_call 154; refine (chars_any _ s _).mono ?_; rintro e w' ⟨rfl, rfl⟩)
  have hB0 : Below w.heap.size w ((((w.alloc (.cells #[.string ⟨#[]⟩] 9)).alloc (.cells #[.int .i64 0] 37)).alloc (.cells #[.pointer none, .slice none 0 0] 146)).alloc (.cells #[.string s] 9)) :=
    ((((Below.refl _ w).alloc (Nat.le_refl _) _).alloc (by simp) _).alloc (by simp; omega) _).alloc (by simp; omega) _
  have hT0 := TX.start w s
  refine wpIn_rangeFunc_ownF rfl (by omega) (gf := 211) (lb := #[.pointer (some ⟨w.heap.size + 1 + 1 + 1, 0, none⟩)]) rfl trivial (enters_of Tryz.func211 (by kernel_rfl) rfl)
    (chars_stops _ (by omega) (w.heap.size + 3) s hs _ (by simp) hT0.2.2.1.cells.1) KpB_t KpB_b (Below.refl _ _) (fun _ => rfl)
    (fun pre W => ((∀ y ∈ pre, y.1 ≠ -1) ∧ TX w.heap.size s (textL pre) W) ∧ Below w.heap.size w W)
    (fun c pre W => (c = .ret ∧ (∃ y ∈ pre, y.1 = -1) ∧ Bx W w.heap.size (.string ⟨#[]⟩) 9 ∧ Bx W (w.heap.size + 1) (.int .i64 3) 37) ∧ Below w.heap.size w W)
    (OwnFrom.and (Own.from (fun s A B row hs hg hr => ⟨hs.1, hs.2.own hg hr⟩) _) (ownFrom_below (Nat.le_refl _) (by simp; omega)))
    (fun c => OwnFrom.and (Own.from (fun s A B row hs hg hr => ⟨hs.1, hs.2.1, hs.2.2.1.own hg hr, hs.2.2.2.own hg hr⟩) _) (ownFrom_below (Nat.le_refl _) (by simp; omega)))
    ⟨⟨by simp, hT0⟩, hB0⟩
    (fun x => { tmps := #[.string s, undef, .pointer (some ⟨w.heap.size, 0, none⟩), .pointer (some ⟨w.heap.size + 1, 0, none⟩), .pointer (some ⟨w.heap.size + 1 + 1, 0, none⟩), .int .i64 x.1, .string s, .func (.func 211) #[] #[.pointer (some ⟨w.heap.size + 1 + 1 + 1, 0, none⟩)], .int .i64 x.1, .int .i64 x.2, undef, undef, undef, undef, undef, undef], defers := [] }) ?assign ?body ?done ?stop
  case assign =>
    intro l x W K hK
    gi_wp2
    exact hK
  case body =>
    rintro l pre x W ⟨⟨hp, hT⟩, hB⟩ hlen
    have hA0 := hT.1.cells
    have hA1 := hT.2.1.cells
    obtain ⟨hc0, hf0⟩ := hA0
    obtain ⟨hc1, hf1⟩ := hA1
    by_cases hx : x.1 = -1
    · have hxb : (x.1 == -1) = true := by rw [beq_iff_eq]; exact hx
      gi_wp2
      exact ⟨(KeepsOthers.setCell _ _ _).trans (KeepsOthers.setCell _ _ _), ⟨rfl, ⟨x, List.mem_append.2 (.inr (by simp)), hx⟩, (hT.1.set _).other (by omega) _, (hT.2.1.other (by omega) _).set _⟩, (hB.setCell (p := ⟨w.heap.size, 0, none⟩) (by simp) _).setCell (p := ⟨w.heap.size + 1, 0, none⟩) (by simp) _⟩
    · have hxb : (x.1 == -1) = false := by rw [beq_eq_false_iff_ne]; exact hx
      have hTL : (textL pre).length ≤ 100000000 := by
        have h1 := textL_len pre
        have h2 := charsL_len s.data.toList
        rw [← Lib.size_eq] at h2
        omega
      have hPs : (strOfNums (putN x.1)).size ≤ 100000000 := by have := strOf_size x.1; omega
      gi_wp2_with (first
        | (refine ⟨trivial, ?_⟩; gi_at_call 155; refine (CallsIn.inRound l (callsIn_wide.2 (put_any x.1 _))).mono ?_; rintro e w1 ⟨rfl, hb1⟩; have hS1 := hT.2.2.2.below hb1)
        | (refine ⟨trivial, ?_⟩; gi_at_call 67; refine (CallsIn.inRound l (callsIn_wide.2 (sb_writeString w.heap.size (w.heap.size + 2) (textL pre) (strOfNums (putN x.1)) _ hS1 hTL hPs (by have := hB.size; have := hb1.size; omega)))).mono ?_; rintro e w2 ⟨rfl, hS2, hk2⟩))
      have hT2 := hT.put hb1 hS2 hk2
      exact ⟨(keeps_below hb1).trans (keeps_sb hS1 hk2), hT.kp hT2, ⟨fun y hy => (List.mem_append.1 hy).elim (hp y) (fun e e' => by simp at e; subst e; exact hx e'), by rw [textL_snoc]; exact hT2⟩, hB.trans ((hb1.mono hB.size).trans hk2.1)⟩
  case done =>
    rintro D ys W hD rfl ⟨⟨hne, hT1⟩, hB⟩ hK
    have hRt : R = true := hR.out.2 hne
    have hTt : T = ⟨(textL (charsL s.data.toList)).toArray⟩ := by rw [hT.out, if_pos hRt]
    have hEt : E = 0 := by rw [hE.out, if_pos hRt]
    gi_wp2_with (refine ⟨trivial, ?_⟩; gi_at_call 70; refine (callsIn_wide.2 (sb_string w.heap.size (w.heap.size + 2) (textL (charsL s.data.toList)) _ hT1.2.2.2 (by have := hB.size; omega))).mono ?_; rintro e w2 ⟨rfl, hS2, hk2⟩; have hx0 := hT1.1.sb hk2 (by omega) (by decide); have hx1 := hT1.2.1.sb hk2 (by omega) (by decide); have hK2 := (keeps_sb hT1.2.2.2 hk2).same D _ hK rfl; obtain ⟨hc0, hf0⟩ := hx0.cells; obtain ⟨hc1, hf1⟩ := hx1.cells)
    have y0 := (hx0.set (.string ⟨(textL (charsL s.data.toList)).toArray⟩)).other (show w.heap.size ≠ w.heap.size + 1 by omega) (.int .i64 0)
    have y1 := (hx1.other (show w.heap.size + 1 ≠ w.heap.size by omega) (.string ⟨(textL (charsL s.data.toList)).toArray⟩)).set (.int .i64 0)
    have hK' := ((KeepsOthers.setCell w2 ⟨w.heap.size, 0, none⟩ (.string ⟨(textL (charsL s.data.toList)).toArray⟩)).trans (KeepsOthers.setCell _ ⟨w.heap.size + 1, 0, none⟩ (.int .i64 0))).same D _ hK2 rfl
    have hBf := ((hB.trans hk2.1).setCell (p := ⟨w.heap.size, 0, none⟩) (Nat.le_refl _) (.string ⟨(textL (charsL s.data.toList)).toArray⟩)).setCell (p := ⟨w.heap.size + 1, 0, none⟩) (Nat.le_succ _) (.int .i64 0)
    refine ⟨by simp, .inl ⟨_, _, rfl, run_takeDeferred hK', ?_⟩⟩
    have hc5 := cell_kept y0.cells.1 (grownBy_putObj' _ D (.deferred none)) (fun r e => by cases e; exact ⟨_, hK', rfl⟩)
    have hc6 := cell_kept y1.cells.1 (grownBy_putObj' _ D (.deferred none)) (fun r e => by cases e; exact ⟨_, hK', rfl⟩)
    refine ⟨.tuple #[.string ⟨(textL (charsL s.data.toList)).toArray⟩, .int .i64 0], ?_, by rw [hTt, hEt], hBf.trans (belowK_b (w := w) (Nat.le_refl _) _ D _ _ (by simp at hD; omega) hK' rfl rfl)⟩
    simp [results, Tryz.f104, go_sem, hc5, hc6]
  case stop =>
    rintro D c pre W hD hpre ⟨⟨rfl, ⟨y, hy, hy1⟩, hx0, hx1⟩, hB⟩ hK
    have hRf : R = false := is_no hR.out (hpre.subset hy) hy1
    have hTt : T = ⟨#[]⟩ := by rw [hT.out, if_neg (by rw [hRf]; decide)]
    have hEt : E = 3 := by rw [hE.out, if_neg (by rw [hRf]; decide)]
    gi_wp2
    refine ⟨by simp, .inl ⟨_, _, rfl, run_takeDeferred hK, ?_⟩⟩
    have hc5 := cell_kept hx0.cells.1 (grownBy_putObj' _ D (.deferred none)) (fun r e => by cases e; exact ⟨_, hK, rfl⟩)
    have hc6 := cell_kept hx1.cells.1 (grownBy_putObj' _ D (.deferred none)) (fun r e => by cases e; exact ⟨_, hK, rfl⟩)
    refine ⟨.tuple #[.string ⟨#[]⟩, .int .i64 3], ?_, by rw [hTt, hEt], hB.trans (belowK_b (w := w) (Nat.le_refl _) W D _ _ (by simp at hD; omega) hK rfl rfl)⟩
    simp [results, Tryz.f104, go_sem, hc5, hc6]
end Go.Proofs.YtjelneeeijjpiaaGreatDoor.Tx
end
section
namespace Go.Proofs.Le
open Go.Proofs.Lw
def hexd (n : Nat) : UInt8 := UInt8.ofNat (if n < 10 then 48 + n else 87 + n)
def ctlB (c : Nat) : List UInt8 :=
  if c = 8 then [92, 98] else if c = 12 then [92, 102] else if c = 10 then [92, 110] else if c = 13 then [92, 114] else if c = 9 then [92, 116]
  else [92, 117, 48, 48, hexd (c / 16), hexd (c % 16)]
def escB (m c : UInt8) : List UInt8 := if c = m ∨ c = 92 then [92, c] else if c < 32 then ctlB c.toNat else [c]
def escL (m : UInt8) : List UInt8 → List UInt8
  | [] => []
  | c :: l => escB m c ++ escL m l
theorem escL_append (m : UInt8) (l k : List UInt8) : escL m (l ++ k) = escL m l ++ escL m k := by
  induction l with
  | nil => rfl
  | cons c l ih => simp [escL, ih]
theorem ctlB_len (c : Nat) : (ctlB c).length ≤ 6 := by
  unfold ctlB
  repeat' split
  all_goals simp
theorem escB_len (m c : UInt8) : (escB m c).length ≤ 6 := by
  unfold escB
  split
  · simp
  · split
    · exact ctlB_len _
    · simp
theorem escL_len (m : UInt8) (l : List UInt8) : (escL m l).length ≤ 6 * l.length := by
  induction l with
  | nil => simp [escL]
  | cons c l ih => have := escB_len m c; simp only [escL, List.length_append, List.length_cons]; omega
def betL (m : UInt8) (l : List UInt8) : List UInt8 := [m] ++ escL m l ++ [m]
end Go.Proofs.Le
end
section
namespace Go.Proofs.Le
open Go.Proofs.Lw
theorem uscal_le (l : List UInt8) : (uscal l).2 ≤ l.length := by
  by_cases h : (uscal l).2 = 0
  · omega
  · exact (uscal_some l h).1
theorem unitP_append (l z : List UInt8) (h : 4 ≤ l.length) : unitP (l ++ z) = unitP l := by
  unfold unitP
  rw [if_neg (by rw [List.length_append]; omega), if_neg (by omega), List.take_append_of_le_length h]
theorem unitP_short (l : List UInt8) (h : l.length < 4) : unitP l = -1 := by rw [unitP, if_pos h]
theorem unitP_long' (l : List UInt8) (h : unitP l ≠ -1) : 4 ≤ l.length := by
  rcases Nat.lt_or_ge l.length 4 with h' | h'
  · exact absurd (unitP_short l h') h
  · exact h'
def Part (r : List UInt8) : Prop := r = [] ∨ r = [92] ∨ ∃ q, r = 92 :: 117 :: q ∧ q.length < 4
def okS : Nat → List UInt8 → Prop
  | 0, _ => True
  | f + 1, x => if x ≠ [] ∧ x.head? ≠ some 34 then (charP x).1 ≠ -1 ∧ okS f (x.drop (charP x).2) else x.length = 1
theorem evs_ok (l : List UInt8) (f k : Nat) : (∀ y ∈ evs l f k, y.1 ≠ -1) ↔ okS f (l.drop k) := by
  induction f generalizing k with
  | zero => simp [evs, okS]
  | succ f ih =>
    have hcond : (k < l.length ∧ l[k]? ≠ some 34) ↔ (l.drop k ≠ [] ∧ (l.drop k).head? ≠ some 34) := by
      rw [List.head?_drop]
      constructor
      · rintro ⟨h1, h2⟩
        exact ⟨by intro e; have := congrArg List.length e; rw [List.length_drop] at this; simp at this; omega, h2⟩
      · rintro ⟨h1, h2⟩
        refine ⟨?_, h2⟩
        rcases Nat.lt_or_ge k l.length with h | h
        · exact h
        · exact absurd (List.drop_eq_nil_of_le h) h1
    rw [evs, okS]
    by_cases h : k < l.length ∧ l[k]? ≠ some 34
    · rw [if_pos h, if_pos (hcond.1 h)]
      obtain ⟨c, m, hcm⟩ : ∃ c m, charP (l.drop k) = (c, m) := ⟨_, _, rfl⟩
      rw [hcm, List.drop_drop]
      simp only [List.mem_cons, forall_eq_or_imp]
      by_cases hc : c = -1
      · simp [hc]
      · rw [if_neg hc]
        rw [ih (k + m)]
    · rw [if_neg h, if_neg (fun h' => h (hcond.2 h'))]
      rw [List.length_drop]
      by_cases h1 : k + 1 = l.length
      · rw [if_pos h1]; simp; omega
      · rw [if_neg h1]; simp; omega
def OkL (l : List UInt8) : Prop := ∀ y ∈ charsL l, y.1 ≠ -1
theorem ok_iff (l : List UInt8) : OkL l ↔ l[0]? = some 34 ∧ okS (l.length + 1) (l.drop 1) := by
  unfold OkL charsL
  by_cases h : l[0]? = some 34
  · rw [if_pos h, evs_ok]; simp [h]
  · rw [if_neg h]; simp [h]
end Go.Proofs.Le
end
section
namespace Go.Proofs.Le
open Go.Proofs.Lw
theorem putL_one (b : UInt8) (h : (b.toNat : Int) < 128) : putL (b.toNat : Int) = [b] := by
  rw [putL_eq_iff]; unfold putN nums
  rw [if_neg (by omega), if_pos h]; rfl
theorem uscal_is (l : List UInt8) (h : (uscal l).2 ≠ 0) : putL (uscal l).1 = l.take (uscal l).2 := by
  cases l with
  | nil => exact absurd rfl h
  | cons b0 l =>
    have hb := b0.toNat_lt
    by_cases h1 : (b0.toNat : Int) < 128
    · rw [U_0 b0 l h1]; exact putL_one b0 h1
    · by_cases h2 : (b0.toNat : Int) < 194 ∨ 245 ≤ (b0.toNat : Int)
      · rw [U_bad b0 l (by omega)] at h; exact absurd rfl h
      · by_cases h3 : (b0.toNat : Int) < 224
        · cases l with
          | nil => rw [U_2s b0 (by omega)] at h; exact absurd rfl h
          | cons b1 l =>
            rw [U_2 b0 b1 l (by omega)] at h ⊢
            by_cases hc : 128 ≤ (b1.toNat : Int) ∧ (b1.toNat : Int) ≤ 191
            · rw [if_pos hc]; exact (putL_eq_iff _ _).2 ((H_2 b0 b1 (by omega)).2 ⟨by omega, hc⟩)
            · rw [if_neg hc] at h; exact absurd rfl h
        · by_cases h4 : (b0.toNat : Int) < 240
          · rcases l with _ | ⟨b1, _ | ⟨b2, l⟩⟩
            · rw [U_3s b0 [] (by omega) (by simp)] at h; exact absurd rfl h
            · rw [U_3s b0 [b1] (by omega) (by simp)] at h; exact absurd rfl h
            · rw [U_3 b0 b1 b2 l (by omega)] at h ⊢
              by_cases hc : (low3 b0.toNat ≤ (b1.toNat : Int) ∧ (b1.toNat : Int) ≤ high3 b0.toNat) ∧ 128 ≤ (b2.toNat : Int) ∧ (b2.toNat : Int) ≤ 191
              · rw [if_pos hc]; exact (putL_eq_iff _ _).2 ((H_3 b0 b1 b2 (by omega)).2 hc)
              · rw [if_neg hc] at h; exact absurd rfl h
          · rcases l with _ | ⟨b1, _ | ⟨b2, _ | ⟨b3, l⟩⟩⟩
            · rw [U_4s b0 [] (by omega) (by simp)] at h; exact absurd rfl h
            · rw [U_4s b0 [b1] (by omega) (by simp)] at h; exact absurd rfl h
            · rw [U_4s b0 [b1, b2] (by omega) (by simp)] at h; exact absurd rfl h
            · rw [U_4 b0 b1 b2 b3 l (by omega)] at h ⊢
              by_cases hc : (low4 b0.toNat ≤ (b1.toNat : Int) ∧ (b1.toNat : Int) ≤ high4 b0.toNat) ∧ (128 ≤ (b2.toNat : Int) ∧ (b2.toNat : Int) ≤ 191) ∧ 128 ≤ (b3.toNat : Int) ∧ (b3.toNat : Int) ≤ 191
              · rw [if_pos hc]; exact (putL_eq_iff _ _).2 ((H_4 b0 b1 b2 b3 (by omega)).2 ⟨by omega, hc⟩)
              · rw [if_neg hc] at h; exact absurd rfl h
theorem putL_high (c : Int) (h : 128 ≤ c) : ∀ b ∈ putL c, 128 ≤ b.toNat := by
  intro b hb
  unfold putL at hb
  obtain ⟨n, hn, rfl⟩ := List.mem_map.1 hb
  have h1 := putN_bytes c n hn
  have h2 : 128 ≤ n := by
    unfold putN at hn
    (repeat' split at hn) <;> simp at hn <;> omega
  rw [UInt8.toNat_ofNat']; omega
theorem escL_high (m : UInt8) (hm : m.toNat < 128) (l : List UInt8) (h : ∀ b ∈ l, 128 ≤ b.toNat) : escL m l = l := by
  induction l with
  | nil => rfl
  | cons b l ih =>
    have hb := h b (by simp)
    have e : escB m b = [b] := by
      unfold escB
      rw [if_neg, if_neg]
      · intro h'
        have := UInt8.lt_iff_toNat_lt.1 h'
        have e32 : (32 : UInt8).toNat = 32 := rfl
        omega
      · rintro (rfl | rfl)
        · omega
        · have e92 : (92 : UInt8).toNat = 92 := rfl
          omega
    rw [escL, e, ih (fun x hx => h x (by simp [hx]))]; rfl
theorem putL_len (c : Int) : (putL c).length ≤ 4 := by
  unfold putL putN
  (repeat' split) <;> simp
theorem putL_low (c : Int) (h0 : 0 ≤ c) (h : c < 128) : putL c = [UInt8.ofNat c.toNat] := by
  unfold putL putN
  rw [if_neg (by omega), if_pos h]; rfl
end Go.Proofs.Le
end
