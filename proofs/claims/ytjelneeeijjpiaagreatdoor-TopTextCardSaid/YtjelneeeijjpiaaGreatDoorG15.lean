/- TopText: walks and plain laws, part 15: lemmas on what the functions that the law comes to compute. -/
import Derived.Test.YtjelneeeijjpiaaGreatDoorG12
import Derived.Test.YtjelneeeijjpiaaGreatDoorG05
import Derived.Test.YtjelneeeijjpiaaGreatDoorG06
set_option linter.unusedVariables false
set_option linter.unusedSimpArgs false
section
namespace Go.Proofs.YtjelneeeijjpiaaGreatDoor
open Go.RowKit
theorem Oth.trans {a b c : World} {p g : Nat} (h : Oth a b p g) (k : Oth b c p g) : Oth a c p g :=
  ⟨Nat.le_trans h.size k.size, fun q hq h1 h2 => (k.cell q (Nat.lt_of_lt_of_le hq h.size) h1 h2).trans (h.cell q hq h1 h2), fun q hq h1 h2 => (k.froz q (Nat.lt_of_lt_of_le hq h.size) h1 h2).trans (h.froz q hq h1 h2), fun B b1 b2 b3 => (h.bel B b1 b2 b3).trans (k.bel B b1 b2 (Nat.le_trans b3 h.size))⟩
theorem Oth.below {a b : World} (p g : Nat) (h : Below a.heap.size a b) : Oth a b p g := ⟨h.size, fun q hq _ _ => h.cell hq, fun q hq _ _ => h.frozen hq, fun B _ _ b3 => h.mono b3⟩
theorem Oth.setP (w : World) (p g i : Nat) (v : Value) : Oth w (w.setCell ⟨p, i, none⟩ v) p g :=
  ⟨by simp [World.setCell], fun q _ h1 _ => World.cell?_setCell_other _ _ _ _ (by rintro rfl; exact h1 rfl), fun q _ _ _ => World.frozen?_setCell _ _ _ _, fun B b1 _ _ => (Below.refl B w).setCell (p := ⟨p, i, none⟩) b1 v⟩
theorem Oth.setG (w : World) (p g i : Nat) (v : Value) : Oth w (w.setCell ⟨g, i, none⟩ v) p g :=
  ⟨by simp [World.setCell], fun q _ _ h1 => World.cell?_setCell_other _ _ _ _ (by rintro rfl; exact h1 rfl), fun q _ _ _ => World.frozen?_setCell _ _ _ _, fun B _ b2 _ => (Below.refl B w).setCell (p := ⟨g, i, none⟩) b2 v⟩
theorem Oth.new {w w' : World} {p g : Nat} (h : Oth w w' p g) (hg : w.heap.size ≤ g) : Oth w w' p p :=
  ⟨h.size, fun q hq h1 _ => h.cell q hq h1 (by omega), fun q hq h1 _ => h.froz q hq h1 (by omega), fun B b1 b2 b3 => h.bel B b1 (by omega) b3⟩
theorem Oth.drewN (w : World) (p g m : Nat) : Oth w (w.drewN m) p g := Oth.below p g (below_drewN' (Below.refl _ _) m)
structure Sc (s : ByteArray) (k : Nat) (sl : Value) (d m : Int) (g : Nat) (W : World) : Prop where
  lt : g < W.heap.size
  c0 : W.cell? ⟨g, 0, none⟩ = some (.string s)
  c1 : W.cell? ⟨g, 1, none⟩ = some (.int .i64 (k : Nat))
  c2 : W.cell? ⟨g, 2, none⟩ = some (sl)
  c3 : W.cell? ⟨g, 3, none⟩ = some (.int .i64 d)
  c4 : W.cell? ⟨g, 4, none⟩ = some (.int .i64 m)
  z1 : W.frozen? ⟨g, 1, none⟩ = false
  z2 : W.frozen? ⟨g, 2, none⟩ = false
  z3 : W.frozen? ⟨g, 3, none⟩ = false
  z4 : W.frozen? ⟨g, 4, none⟩ = false
theorem Sc.of {W W' : World} {g : Nat} {s : ByteArray} {k : Nat} {sl : Value} {d m : Int} (h : Sc s k sl d m g W) (hs : W.heap.size ≤ W'.heap.size) (hc : ∀ c, W'.cell? ⟨g, c, none⟩ = W.cell? ⟨g, c, none⟩) (hf : ∀ c, W'.frozen? ⟨g, c, none⟩ = W.frozen? ⟨g, c, none⟩) : Sc s k sl d m g W' := ⟨Nat.lt_of_lt_of_le h.lt hs, (hc 0).trans h.c0, (hc 1).trans h.c1, (hc 2).trans h.c2, (hc 3).trans h.c3, (hc 4).trans h.c4, (hf 1).trans h.z1, (hf 2).trans h.z2, (hf 3).trans h.z3, (hf 4).trans h.z4⟩
theorem Sc.below {W W' : World} {g : Nat} {s : ByteArray} {k : Nat} {sl : Value} {d m : Int} (h : Sc s k sl d m g W) (hb : Below W.heap.size W W') : Sc s k sl d m g W' := h.of hb.size (fun c => hb.cell (p := ⟨g, c, none⟩) h.lt) (fun c => hb.frozen (p := ⟨g, c, none⟩) h.lt)
theorem Sc.set {W : World} {g : Nat} {s : ByteArray} {k : Nat} {sl : Value} {d m : Int} (h : Sc s k sl d m g W) {a : Addr} (hne : a.block ≠ g) (v : Value) : Sc s k sl d m g (W.setCell a v) := h.of (by simp [World.setCell]) (fun c => World.cell?_setCell_other _ _ _ _ (by intro e; exact hne (by rw [e]))) (fun c => World.frozen?_setCell _ _ _ _)
theorem Sc.setK {W : World} {g : Nat} {s : ByteArray} {k : Nat} {sl : Value} {d m : Int} (h : Sc s k sl d m g W) (k' : Nat) : Sc s k' sl d m g (W.setCell ⟨g, 1, none⟩ (.int .i64 (k' : Nat))) := ⟨by simpa [World.setCell] using h.lt, (World.cell?_setCell_other _ _ _ _ (by intro e; injection e with e1 e2; omega)).trans h.c0, World.cell?_setCell_same' _ _ _ (by rw [h.c1]; rfl), (World.cell?_setCell_other _ _ _ _ (by intro e; injection e with e1 e2; omega)).trans h.c2, (World.cell?_setCell_other _ _ _ _ (by intro e; injection e with e1 e2; omega)).trans h.c3, (World.cell?_setCell_other _ _ _ _ (by intro e; injection e with e1 e2; omega)).trans h.c4, (World.frozen?_setCell _ _ _ _).trans h.z1, (World.frozen?_setCell _ _ _ _).trans h.z2, (World.frozen?_setCell _ _ _ _).trans h.z3, (World.frozen?_setCell _ _ _ _).trans h.z4⟩
theorem Sc.setS {W : World} {g : Nat} {s : ByteArray} {k : Nat} {sl : Value} {d m : Int} (h : Sc s k sl d m g W) (sl' : Value) : Sc s k sl' d m g (W.setCell ⟨g, 2, none⟩ (sl')) := ⟨by simpa [World.setCell] using h.lt, (World.cell?_setCell_other _ _ _ _ (by intro e; injection e with e1 e2; omega)).trans h.c0, (World.cell?_setCell_other _ _ _ _ (by intro e; injection e with e1 e2; omega)).trans h.c1, World.cell?_setCell_same' _ _ _ (by rw [h.c2]; rfl), (World.cell?_setCell_other _ _ _ _ (by intro e; injection e with e1 e2; omega)).trans h.c3, (World.cell?_setCell_other _ _ _ _ (by intro e; injection e with e1 e2; omega)).trans h.c4, (World.frozen?_setCell _ _ _ _).trans h.z1, (World.frozen?_setCell _ _ _ _).trans h.z2, (World.frozen?_setCell _ _ _ _).trans h.z3, (World.frozen?_setCell _ _ _ _).trans h.z4⟩
theorem Sc.setD {W : World} {g : Nat} {s : ByteArray} {k : Nat} {sl : Value} {d m : Int} (h : Sc s k sl d m g W) (d' : Int) : Sc s k sl d' m g (W.setCell ⟨g, 3, none⟩ (.int .i64 d')) := ⟨by simpa [World.setCell] using h.lt, (World.cell?_setCell_other _ _ _ _ (by intro e; injection e with e1 e2; omega)).trans h.c0, (World.cell?_setCell_other _ _ _ _ (by intro e; injection e with e1 e2; omega)).trans h.c1, (World.cell?_setCell_other _ _ _ _ (by intro e; injection e with e1 e2; omega)).trans h.c2, World.cell?_setCell_same' _ _ _ (by rw [h.c3]; rfl), (World.cell?_setCell_other _ _ _ _ (by intro e; injection e with e1 e2; omega)).trans h.c4, (World.frozen?_setCell _ _ _ _).trans h.z1, (World.frozen?_setCell _ _ _ _).trans h.z2, (World.frozen?_setCell _ _ _ _).trans h.z3, (World.frozen?_setCell _ _ _ _).trans h.z4⟩
theorem Sc.setM {W : World} {g : Nat} {s : ByteArray} {k : Nat} {sl : Value} {d m : Int} (h : Sc s k sl d m g W) (m' : Int) : Sc s k sl d m' g (W.setCell ⟨g, 4, none⟩ (.int .i64 m')) := ⟨by simpa [World.setCell] using h.lt, (World.cell?_setCell_other _ _ _ _ (by intro e; injection e with e1 e2; omega)).trans h.c0, (World.cell?_setCell_other _ _ _ _ (by intro e; injection e with e1 e2; omega)).trans h.c1, (World.cell?_setCell_other _ _ _ _ (by intro e; injection e with e1 e2; omega)).trans h.c2, (World.cell?_setCell_other _ _ _ _ (by intro e; injection e with e1 e2; omega)).trans h.c3, World.cell?_setCell_same' _ _ _ (by rw [h.c4]; rfl), (World.frozen?_setCell _ _ _ _).trans h.z1, (World.frozen?_setCell _ _ _ _).trans h.z2, (World.frozen?_setCell _ _ _ _).trans h.z3, (World.frozen?_setCell _ _ _ _).trans h.z4⟩
theorem Sc.drewN {W : World} {g : Nat} {s : ByteArray} {k : Nat} {sl : Value} {d m : Int} (h : Sc s k sl d m g W) (n : Nat) : Sc s k sl d m g (W.drewN n) := h.below (below_drewN' (Below.refl _ _) n)
theorem Sc.drew {W : World} {g : Nat} {s : ByteArray} {k : Nat} {sl : Value} {d m : Int} (h : Sc s k sl d m g W) : Sc s k sl d m g W.drew := h.below (Below.refl _ _).drew
structure St (g : Nat) (W : World) : Prop where
  lt : g < W.heap.size
  c : W.cell? ⟨g, 0, none⟩ = some (.int .u64 0)
  z : W.frozen? ⟨g, 0, none⟩ = false
theorem St.below {g : Nat} {W W' : World} (h : St g W) (hb : Below W.heap.size W W') : St g W' := ⟨Nat.lt_of_lt_of_le h.lt hb.size, (hb.cell (p := ⟨g, 0, none⟩) h.lt).trans h.c, (hb.frozen (p := ⟨g, 0, none⟩) h.lt).trans h.z⟩
theorem St.drewN {g : Nat} {W : World} (h : St g W) (n : Nat) : St g (W.drewN n) := h.below (below_drewN' (Below.refl _ _) n)
theorem St.drew {g : Nat} {W : World} (h : St g W) : St g W.drew := h.below (Below.refl _ _).drew
theorem St.set {g : Nat} {W : World} (h : St g W) {q : Addr} (hq : q.block ≠ g) (v : Value) : St g (W.setCell q v) := ⟨by simpa [World.setCell] using h.lt, (World.cell?_setCell_other _ _ _ _ (by rintro rfl; exact hq rfl)).trans h.c, (World.frozen?_setCell _ _ _ _).trans h.z⟩
theorem St.own {g : Nat} {W : World} (h : St g W) : St g (W.setCell ⟨g, 0, none⟩ (.int .u64 0)) := ⟨by simpa [World.setCell] using h.lt, World.cell?_setCell_same' _ _ _ (by rw [h.c]; rfl), (World.frozen?_setCell _ _ _ _).trans h.z⟩
theorem St.oth {g x : Nat} {W W' : World} (h : St g W) (hb : Oth W W' x x) (hx : g ≠ x) : St g W' := ⟨Nat.lt_of_lt_of_le h.lt hb.size, (hb.cell ⟨g, 0, none⟩ h.lt hx hx).trans h.c, (hb.froz ⟨g, 0, none⟩ h.lt hx hx).trans h.z⟩
def Sto (w : World) (v : Value) (s : ByteArray) (k : Nat) (sl : Value) (d m : Int) (x : Nat) (e : Ending) (w' : World) : Prop := e = .returned v ∧ Sc s k sl d m x w' ∧ Oth w w' x x
theorem ixb_none : ∀ (l : List UInt8) (c : UInt8), l.contains c = false → Lib.indexByte l c = -1
  | [], _, _ => rfl
  | b :: l, c, h => by
    rw [List.contains_cons, Bool.or_eq_false_iff] at h
    have hb : ¬ (b == c) = true := by intro e; rw [beq_iff_eq] at e; subst e; simp at h
    rw [Lib.indexByte, if_neg hb, ixb_none l c h.2]; rfl
theorem ixb_no (b : UInt8) (t : ByteArray) (h : t.data.toList.contains b = false) (w : World) : Calls Tryz.prog 86 #[.string t, .int .u8 (b.toNat : Nat)] w fun e w' => e = .returned (.int .i64 (-1)) ∧ w = w' := by
  have h2 := Tryz.strings_IndexByte t (b.toNat : Nat) w
  rw [show ((b.toNat : Nat) : Int).toNat.toUInt8 = b by simp] at h2
  rw [show Lib.indexByte t.data.toList b = -1 by exact ixb_none _ _ h] at h2
  exact h2.mono fun e w' ⟨a, b⟩ => ⟨a, b.symm⟩
theorem Acc.fz {w0 w : World} {e : TypeId} {size : Nat} {g cap n : Nat} {xs : List Value} (h : Acc w0 w e size (.slice (some ⟨g, 0, none⟩) (n + 1) cap) (n + 1) xs) (j : Nat) : w.frozen? ⟨g, j, none⟩ = false := by
  rcases h.own.2 with ⟨hv, h0⟩ | ⟨g', cap', cur, hv, hb, hg, _, _, hs, hx⟩
  · omega
  · injection hv with hv _ _
    injection hv with hv
    injection hv with hv _ _
    subst hv
    simp [World.frozen?, hg]
abbrev escs : ByteArray := ⟨#[34, 92, 47, 98, 102, 110, 114, 116, 117]⟩
theorem ixb_yes (b : UInt8) (h : Go.Proofs.Le.SimB b ∨ b = 117) (w : World) : Calls Tryz.prog 86 #[.string escs, .int .u8 (b.toNat : Nat)] w fun e w' => ∃ r : Nat, e = .returned (.int .i64 (r : Nat)) ∧ w = w' := by
  have h2 := Tryz.strings_IndexByte escs (b.toNat : Nat) w
  rw [show ((b.toNat : Nat) : Int).toNat.toUInt8 = b by simp] at h2
  have h3 : ∃ r : Nat, Lib.indexByte escs.data.toList b = (r : Int) := by
    rcases h with (rfl | rfl | rfl | rfl | rfl | rfl | rfl | rfl) | rfl
    · exact ⟨0, by decide⟩
    · exact ⟨1, by decide⟩
    · exact ⟨2, by decide⟩
    · exact ⟨3, by decide⟩
    · exact ⟨4, by decide⟩
    · exact ⟨5, by decide⟩
    · exact ⟨6, by decide⟩
    · exact ⟨7, by decide⟩
    · exact ⟨8, by decide⟩
  obtain ⟨r, hr⟩ := h3
  rw [hr] at h2
  exact h2.mono fun e w' ⟨a, b⟩ => ⟨r, a, b.symm⟩
end Go.Proofs.YtjelneeeijjpiaaGreatDoor
end
section
namespace Go.Proofs.YtjelneeeijjpiaaGreatDoor
open Go.RowKit
theorem blk_no (b : UInt8) (c : Int) (hc : ((b.toNat : Nat) : Int) = c) (h : c ≠ 32 ∧ c ≠ 9 ∧ c ≠ 10 ∧ c ≠ 13) : blk.data.toList.contains b = false := by
  obtain ⟨h1, h2, h3, h4⟩ := h
  have e1 : b ≠ 32 := by rintro rfl; exact h1 (by rw [← hc]; rfl)
  have e2 : b ≠ 9 := by rintro rfl; exact h2 (by rw [← hc]; rfl)
  have e3 : b ≠ 10 := by rintro rfl; exact h3 (by rw [← hc]; rfl)
  have e4 : b ≠ 13 := by rintro rfl; exact h4 (by rw [← hc]; rfl)
  simp [e1, e2, e3, e4]
set_option maxRecDepth 100000 in
set_option maxHeartbeats 2000000 in
theorem next_v (s : ByteArray) (k : Nat) (sl : Value) (d m : Int) (c : Int) (x : Nat) (hs : s.size ≤ 100000) (hk : k < s.size) (hc : ((s[k]'hk).toNat : Int) = c) (w : World) (h : Sc s k sl d m x w) : Calls Tryz.prog 110 #[.pointer (some ⟨x, 0, none⟩)] w fun e w' => e = .returned (.int .u8 c) ∧ ∃ n, w' = w.drewN n := by
  have hki : (k : Int) < (s.size : Int) := by omega
  go_enter Tryz.func110, Tryz.ntmps110
  have xlt := h.lt
  have xlt1 : x < w.heap.size + 1 := by omega
  have xlt2 : x < w.heap.size + 1 + 1 := by omega
  have xlt3 : x < w.heap.size + 1 + 1 + 1 := by omega
  have x0 := h.c0
  have x1 := h.c1
  have x2 := h.c2
  have x3 := h.c3
  have x4 := h.c4
  have xz1 := h.z1
  have xz2 := h.z2
  have xz3 := h.z3
  have xz4 := h.z4
  go_wp2_with fail
  go_quiet (fail)
  go_wp2_with fail
  go_quiet (fail)
  go_wp2_with fail
  go_ret
  exact ⟨rfl, _, World.drewN_drewN _ _ _⟩
set_option maxRecDepth 100000 in
set_option maxHeartbeats 2000000 in
theorem blanks_v (s : ByteArray) (k : Nat) (sl : Value) (d m : Int) (c : Int) (x : Nat) (hs : s.size ≤ 100000) (hk : k < s.size) (hc : ((s[k]'hk).toNat : Int) = c) (hb : c ≠ 32 ∧ c ≠ 9 ∧ c ≠ 10 ∧ c ≠ 13) (w : World) (h : Sc s k sl d m x w) : Calls Tryz.prog 109 #[.pointer (some ⟨x, 0, none⟩)] w fun e w' => e = .returned (.tuple #[]) ∧ ∃ n, w' = w.drewN n := by
  have hki : (k : Int) < (s.size : Int) := by omega
  have hdk : decide (k < s.size) = true := by simpa using hk
  have hI := ixb_no (s[k]'hk) blk (blk_no _ c hc hb)
  rw [hc] at hI
  go_enter Tryz.func109, Tryz.ntmps109
  have xlt := h.lt
  have xlt1 : x < w.heap.size + 1 := by omega
  have xlt2 : x < w.heap.size + 1 + 1 := by omega
  have xlt3 : x < w.heap.size + 1 + 1 + 1 := by omega
  have x0 := h.c0
  have x1 := h.c1
  have x2 := h.c2
  have x3 := h.c3
  have x4 := h.c4
  have xz1 := h.z1
  have xz2 := h.z2
  have xz3 := h.z3
  have xz4 := h.z4
  go_wp2_with (first | (refine wp_loop_unr 2 ?_; refine Unr.step ?_; intro U hU) | (refine Unr.step ?_; intro U hU))
  go_quiet ((first | (go_at_call 86; exact quiet_mine (hI _))))
  go_wp2_with fail
  exact bodyPost_end (v := .tuple #[]) (by simp [results, Tryz.results109, go_sem]) rfl ⟨rfl, _, rfl⟩
set_option maxRecDepth 100000 in
set_option maxHeartbeats 2000000 in
theorem blanks_e (s : ByteArray) (k : Nat) (sl : Value) (d m : Int) (x : Nat) (hs : s.size ≤ 100000) (hk : k = s.size) (w : World) (h : Sc s k sl d m x w) : Calls Tryz.prog 109 #[.pointer (some ⟨x, 0, none⟩)] w fun e w' => e = .returned (.tuple #[]) ∧ ∃ n, w' = w.drewN n := by
  subst hk
  have hdk : decide (s.size < s.size) = false := by simp
  go_enter Tryz.func109, Tryz.ntmps109
  have xlt := h.lt
  have xlt1 : x < w.heap.size + 1 := by omega
  have xlt2 : x < w.heap.size + 1 + 1 := by omega
  have xlt3 : x < w.heap.size + 1 + 1 + 1 := by omega
  have x0 := h.c0
  have x1 := h.c1
  have x2 := h.c2
  have x3 := h.c3
  have x4 := h.c4
  have xz1 := h.z1
  have xz2 := h.z2
  have xz3 := h.z3
  have xz4 := h.z4
  go_wp2_with (first | (refine wp_loop_unr 2 ?_; refine Unr.step ?_; intro U hU) | (refine Unr.step ?_; intro U hU))
  go_quiet (fail)
  go_wp2_with fail
  exact bodyPost_end (v := .tuple #[]) (by simp [results, Tryz.results109, go_sem]) rfl ⟨rfl, _, rfl⟩
set_option maxRecDepth 100000 in
set_option maxHeartbeats 2000000 in
theorem pop_1 (s : ByteArray) (k : Nat) (sl : Value) (m : Int) (x : Nat) (hs : s.size ≤ 100000) (hk : k < s.size) (w : World) (h : Sc s k sl 1 m x w) : Calls Tryz.prog 115 #[.pointer (some ⟨x, 0, none⟩)] w fun e w' => Sto w (.tuple #[]) s (k + 1) sl 0 m x e w' := by
  go_enter Tryz.func115, Tryz.ntmps115
  have xlt := h.lt
  have xlt1 : x < w.heap.size + 1 := by omega
  have xlt2 : x < w.heap.size + 1 + 1 := by omega
  have xlt3 : x < w.heap.size + 1 + 1 + 1 := by omega
  have x0 := h.c0
  have x1 := h.c1
  have x2 := h.c2
  have x3 := h.c3
  have x4 := h.c4
  have xz1 := h.z1
  have xz2 := h.z2
  have xz3 := h.z3
  have xz4 := h.z4
  go_wp2_with fail
  exact bodyPost_end (v := .tuple #[]) (by simp [results, Tryz.results115, go_sem]) rfl ⟨rfl, (h.setD 0).setK (k + 1), (Oth.setP _ _ _ _ _).trans (Oth.setP _ _ _ _ _)⟩
set_option maxRecDepth 100000 in
set_option maxHeartbeats 2000000 in
theorem object_0 (s : ByteArray) (k g c : Nat) (m : Int) (x : Nat) (w : World) (h : Sc s k (.slice (some ⟨g, 0, none⟩) 1 c) 1 m x w) (hg : St g w) : Calls Tryz.prog 116 #[.pointer (some ⟨x, 0, none⟩)] w fun e w' => e = .returned (.bool false) ∧ ∃ n, w' = w.drewN n := by
  have gl := hg.lt
  have gc := hg.c
  go_enter Tryz.func116, Tryz.ntmps116
  have xlt := h.lt
  have xlt1 : x < w.heap.size + 1 := by omega
  have xlt2 : x < w.heap.size + 1 + 1 := by omega
  have xlt3 : x < w.heap.size + 1 + 1 + 1 := by omega
  have x0 := h.c0
  have x1 := h.c1
  have x2 := h.c2
  have x3 := h.c3
  have x4 := h.c4
  have xz1 := h.z1
  have xz2 := h.z2
  have xz3 := h.z3
  have xz4 := h.z4
  go_wp2_with fail
  go_quiet (fail)
  go_wp2_with fail
  go_ret
  exact ⟨rfl, _, rfl⟩
set_option maxRecDepth 100000 in
set_option maxHeartbeats 2000000 in
theorem push_0 (s : ByteArray) (k : Nat) (x : Nat) (hs : s.size ≤ 100000) (hk : k < s.size) (w : World) (h : Sc s k (.slice none 0 0) 0 0 x w) : Calls Tryz.prog 111 #[.pointer (some ⟨x, 0, none⟩), .bool false] w fun e w' => ∃ g c, Sto w (.tuple #[]) s (k + 1) (.slice (some ⟨g, 0, none⟩) 1 c) 1 1 x e w' ∧ St g w' ∧ w.heap.size ≤ g := by
  obtain ⟨i0, hi0, hz0, hs0, hb0⟩ := info_parts info105
  go_enter Tryz.func111, Tryz.ntmps111
  have xlt := h.lt
  have xlt1 : x < w.heap.size + 1 := by omega
  have xlt2 : x < w.heap.size + 1 + 1 := by omega
  have xlt3 : x < w.heap.size + 1 + 1 + 1 := by omega
  have x0 := h.c0
  have x1 := h.c1
  have x2 := h.c2
  have x3 := h.c3
  have x4 := h.c4
  have xz1 := h.z1
  have xz2 := h.z2
  have xz3 := h.z3
  have xz4 := h.z4
  go_wp2_with fail
  go_quiet (fail)
  go_wp2_with (first | (at_builtin; refine wpList_push rfl _ _ 153 rfl 105 i0 _ 1 8 Tryz.underlying153 hi0 hz0 hs0 hb0 rfl (by omega) (Acc.nil (Below.refl _ _) 105 1) rfl rfl (by simp) rfl rfl (by omega) (by omega) ?_; intro g c w3 hA; have hb3 := hA.bel; have H3 := (h.drewN _).below hb3; have hr := hA.row; have hG : St g w3 := ⟨hr.2.1, hr.2.2 0 _ rfl, hA.fz 0⟩; have hl := hr.1; simp at hl; have hgx : ¬ g = x := (by omega); have hxg : ¬ x = g := (by omega); clear xlt xlt1 xlt2 xlt3 x0 x1 x2 x3 x4 xz1 xz2 xz3 xz4; have xlt := H3.lt; have xlt1 : x < w3.heap.size + 1 := (by omega); have xlt2 : x < w3.heap.size + 1 + 1 := (by omega); have xlt3 : x < w3.heap.size + 1 + 1 + 1 := (by omega); have x0 := H3.c0; have x1 := H3.c1; have x2 := H3.c2; have x3 := H3.c3; have x4 := H3.c4; have xz1 := H3.z1; have xz2 := H3.z2; have xz3 := H3.z3; have xz4 := H3.z4; have gc := hG.c; have gz := hG.z; have gl := hG.lt))
  go_quiet (fail)
  go_wp2_with fail
  go_region
  go_wp2_with fail
  go_region
  go_wp2_with fail
  have ha : bits .andNot .u64 0 1 = 0 := by decide
  rw [ha]
  exact bodyPost_end (v := .tuple #[]) (by simp [results, Tryz.results111, go_sem]) rfl ⟨g, c, ⟨rfl, ((((((H3.setS _).drewN _).set (a := ⟨g, 0, none⟩) hgx _).setD 1).setM 1).setK (k + 1)).drew, (((((((((Oth.drewN w x g _).trans (Oth.below x g hb3)).trans (Oth.setP _ x g 2 _)).trans (Oth.drewN _ x g _)).trans (Oth.setG _ x g 0 _)).trans (Oth.setP _ x g 3 _)).trans (Oth.setP _ x g 4 _)).trans (Oth.setP _ x g 1 _)).trans (Oth.below x g (Below.refl _ _).drew)).new hl⟩, (((((hG.set (q := ⟨x, 2, none⟩) hxg _).drewN _).own.set (q := ⟨x, 3, none⟩) hxg _).set (q := ⟨x, 4, none⟩) hxg _).set (q := ⟨x, 1, none⟩) hxg _).drew, hl⟩
end Go.Proofs.YtjelneeeijjpiaaGreatDoor
end
section
namespace Go.Proofs.YtjelneeeijjpiaaGreatDoor
open Go.RowKit
open Go.Proofs.Le
theorem drop_at (s : ByteArray) (j : Nat) (c : UInt8) (y : List UInt8) (h : s.data.toList.drop j = c :: y) : ∃ hj : j < s.size, s[j]'hj = c ∧ s.data.toList.drop (j + 1) = y := by
  have hl : j < s.data.toList.length := by
    rcases Nat.lt_or_ge j s.data.toList.length with h1 | h1
    · exact h1
    · rw [List.drop_eq_nil_of_le h1] at h; simp at h
  rw [List.drop_eq_getElem_cons hl] at h
  injection h with h1 h2
  exact ⟨by rw [Lib.size_eq]; exact hl, h1, h2⟩
theorem hexb_yes (b : UInt8) (h : HexB b) (w : World) : Calls Tryz.prog 218 #[.int .u8 (b.toNat : Nat)] w fun e w' => e = .returned (.bool true) ∧ w = w' := by
  obtain ⟨c, hc⟩ : ∃ c : Nat, b.toNat = c := ⟨_, rfl⟩
  unfold HexB at h
  rw [hc] at h ⊢
  clear hc
  rcases h with ⟨h1, h2⟩ | ⟨h1, h2⟩ | ⟨h1, h2⟩
  · have d1 : decide (48 ≤ (c : Int)) = true := by simp; omega
    have d2 : decide ((c : Int) ≤ 57) = true := by simp; omega
    go_enter Tryz.func218, Tryz.ntmps218
    go_wp2
    go_ret
    exact ⟨rfl, rfl⟩
  · have d1 : decide (48 ≤ (c : Int)) = true := by simp; omega
    have d2 : decide ((c : Int) ≤ 57) = false := by simp; omega
    have d3 : decide (97 ≤ (c : Int)) = true := by simp; omega
    have d4 : decide ((c : Int) ≤ 102) = true := by simp; omega
    go_enter Tryz.func218, Tryz.ntmps218
    go_wp2
    go_ret
    exact ⟨rfl, rfl⟩
  · have d1 : decide (48 ≤ (c : Int)) = true := by simp; omega
    have d2 : decide ((c : Int) ≤ 57) = false := by simp; omega
    have d3 : decide (97 ≤ (c : Int)) = false := by simp; omega
    have d5 : decide (65 ≤ (c : Int)) = true := by simp; omega
    have d6 : decide ((c : Int) ≤ 70) = true := by simp; omega
    go_enter Tryz.func218, Tryz.ntmps218
    go_wp2
    go_ret
    exact ⟨rfl, rfl⟩
set_option maxRecDepth 100000 in
set_option maxHeartbeats 2000000 in
theorem take_q (s : ByteArray) (k : Nat) (sl : Value) (d m : Int) (x : Nat) (hs : s.size ≤ 100000) (hk : k < s.size) (hc : ((s[k]'hk).toNat : Int) = 34) (w : World) (h : Sc s k sl d m x w) : Calls Tryz.prog 114 #[.pointer (some ⟨x, 0, none⟩), .string ⟨#[34]⟩] w fun e w' => Sto w (.bool true) s (k + 1) sl d m x e w' := by
  go_enter Tryz.func114, Tryz.ntmps114
  have xlt := h.lt
  have xlt1 : x < w.heap.size + 1 := by omega
  have xlt2 : x < w.heap.size + 1 + 1 := by omega
  have xlt3 : x < w.heap.size + 1 + 1 + 1 := by omega
  have x0 := h.c0
  have x1 := h.c1
  have x2 := h.c2
  have x3 := h.c3
  have x4 := h.c4
  have xz1 := h.z1
  have xz2 := h.z2
  have xz3 := h.z3
  have xz4 := h.z4
  go_wp2_with (first | (refine wp_loop_unr 3 ?_; refine Unr.step ?_; intro U hU) | (refine Unr.step ?_; intro U hU))
  go_quiet ((go_at_call 110; exact quiet_ex (next_v s k sl d m 34 x hs hk hc _ (h.drewN _))))
  go_wp2_with (first | (refine wp_loop_unr 3 ?_; refine Unr.step ?_; intro U hU) | (refine Unr.step ?_; intro U hU))
  go_ret
  exact ⟨rfl, (h.drewN _).setK (k + 1), (Oth.drewN _ _ _ _).trans (Oth.setP _ _ _ _ _)⟩
set_option maxRecDepth 100000 in
set_option maxHeartbeats 2000000 in
theorem esc_sim (s : ByteArray) (k : Nat) (sl : Value) (d m : Int) (b : UInt8) (x : Nat) (hs : s.size ≤ 100000) (hk : k < s.size) (hb : s[k]'hk = b) (hB : SimB b) (w : World) (h : Sc s k sl d m x w) : Calls Tryz.prog 163 #[.pointer (some ⟨x, 0, none⟩)] w fun e w' => Sto w (.bool true) s (k + 1) sl d m x e w' := by
  have hc : ((s[k]'hk).toNat : Int) = (b.toNat : Int) := by rw [hb]
  clear hb
  have h0 : ((b.toNat : Int) == 0) = false := by rcases hB with rfl | rfl | rfl | rfl | rfl | rfl | rfl | rfl <;> rfl
  have h1 : ((b.toNat : Int) != 117) = true := by rcases hB with rfl | rfl | rfl | rfl | rfl | rfl | rfl | rfl <;> rfl
  have hI := ixb_yes b (.inl hB)
  have HB := Lib.hid hB
  clear hB
  go_enter Tryz.func163, Tryz.ntmps163
  have xlt := h.lt
  have xlt1 : x < w.heap.size + 1 := by omega
  have xlt2 : x < w.heap.size + 1 + 1 := by omega
  have xlt3 : x < w.heap.size + 1 + 1 + 1 := by omega
  have x0 := h.c0
  have x1 := h.c1
  have x2 := h.c2
  have x3 := h.c3
  have x4 := h.c4
  have xz1 := h.z1
  have xz2 := h.z2
  have xz3 := h.z3
  have xz4 := h.z4
  go_wp2_with fail
  refine (next_v s k sl d m _ x hs hk hc _ h).mono ?_; rintro e w1 ⟨rfl, m1, rfl⟩
  go_wp2_with (first | (go_at_call 86; refine (hI _).mono ?_; rintro e w2 ⟨r, rfl, rfl⟩))
  go_ret
  exact ⟨rfl, (h.drewN _).setK (k + 1), (Oth.drewN _ _ _ _).trans (Oth.setP _ _ _ _ _)⟩
set_option maxRecDepth 100000 in
set_option maxHeartbeats 2000000 in
theorem esc_uni (s : ByteArray) (k : Nat) (sl : Value) (d m : Int) (x : Nat) (hs : s.size ≤ 100000) (hk : k < s.size) (hb : s[k]'hk = 117) (b1 b2 b3 b4 : UInt8) (hj1 : k + 1 < s.size) (hj2 : k + 2 < s.size) (hj3 : k + 3 < s.size) (hj4 : k + 4 < s.size) (g1 : s[k + 1]'hj1 = b1) (H1 : HexB b1) (g2 : s[k + 2]'hj2 = b2) (H2 : HexB b2) (g3 : s[k + 3]'hj3 = b3) (H3 : HexB b3) (g4 : s[k + 4]'hj4 = b4) (H4 : HexB b4) (w : World) (h : Sc s k sl d m x w) : Calls Tryz.prog 163 #[.pointer (some ⟨x, 0, none⟩)] w fun e w' => Sto w (.bool true) s (k + 5) sl d m x e w' := by
  have hc : ((s[k]'hk).toNat : Int) = 117 := by rw [hb]; rfl
  clear hb
  have hI := ixb_yes 117 (.inr rfl)
  have c1 : ((s[k + 1]'hj1).toNat : Int) = (b1.toNat : Int) := by rw [g1]
  clear g1
  have c2 : ((s[k + 2]'hj2).toNat : Int) = (b2.toNat : Int) := by rw [g2]
  clear g2
  have c3 : ((s[k + 3]'hj3).toNat : Int) = (b3.toNat : Int) := by rw [g3]
  clear g3
  have c4 : ((s[k + 4]'hj4).toNat : Int) = (b4.toNat : Int) := by rw [g4]
  clear g4
  go_enter Tryz.func163, Tryz.ntmps163
  have xlt := h.lt
  have xlt1 : x < w.heap.size + 1 := by omega
  have xlt2 : x < w.heap.size + 1 + 1 := by omega
  have xlt3 : x < w.heap.size + 1 + 1 + 1 := by omega
  have x0 := h.c0
  have x1 := h.c1
  have x2 := h.c2
  have x3 := h.c3
  have x4 := h.c4
  have xz1 := h.z1
  have xz2 := h.z2
  have xz3 := h.z3
  have xz4 := h.z4
  go_wp2_with fail
  refine (next_v s k sl d m 117 x hs hk hc _ h).mono ?_; rintro e w1 ⟨rfl, m1, rfl⟩
  go_wp2_with (first | (go_at_call 86; refine (hI _).mono ?_; rintro e w2 ⟨r, rfl, rfl⟩) | (refine wp_loop_unr 6 ?_; refine Unr.step ?_; intro U hU) | (refine Unr.step ?_; intro U hU))
  generalize hW1 : World.setCell _ _ _ = W1
  have S1 : Sc s (k + 1) sl d m x W1 := by rw [← hW1]; exact (h.drewN m1).setK (k + 1)
  have O1 : Oth w W1 x x := by rw [← hW1]; exact (Oth.drewN w x x m1).trans (Oth.setP _ x x 1 _)
  clear xlt xlt1 xlt2 xlt3 x0 x1 x2 x3 x4 xz1 xz2 xz3 xz4
  clear hW1
  have xlt := S1.lt
  have xlt1 : x < W1.heap.size + 1 := by omega
  have xlt2 : x < W1.heap.size + 1 + 1 := by omega
  have xlt3 : x < W1.heap.size + 1 + 1 + 1 := by omega
  have x0 := S1.c0
  have x1 := S1.c1
  have x2 := S1.c2
  have x3 := S1.c3
  have x4 := S1.c4
  have xz1 := S1.z1
  have xz2 := S1.z2
  have xz3 := S1.z3
  have xz4 := S1.z4
  refine (next_v s (k + 1) sl d m _ x hs hj1 c1 _ S1).mono ?_; rintro e w2 ⟨rfl, m2, rfl⟩
  go_wp2_with (first | (go_at_call 218; refine (hexb_yes b1 H1 _).mono ?_; rintro e w2 ⟨rfl, rfl⟩) | (refine wp_loop_unr 6 ?_; refine Unr.step ?_; intro U hU) | (refine Unr.step ?_; intro U hU))
  generalize hW2 : World.setCell _ _ _ = W2
  have S2 : Sc s (k + 2) sl d m x W2 := by rw [← hW2]; exact (S1.drewN m2).setK (k + 2)
  have O2 : Oth w W2 x x := by rw [← hW2]; exact (O1.trans (Oth.drewN _ x x m2)).trans (Oth.setP _ x x 1 _)
  clear xlt xlt1 xlt2 xlt3 x0 x1 x2 x3 x4 xz1 xz2 xz3 xz4
  clear hW2
  have xlt := S2.lt
  have xlt1 : x < W2.heap.size + 1 := by omega
  have xlt2 : x < W2.heap.size + 1 + 1 := by omega
  have xlt3 : x < W2.heap.size + 1 + 1 + 1 := by omega
  have x0 := S2.c0
  have x1 := S2.c1
  have x2 := S2.c2
  have x3 := S2.c3
  have x4 := S2.c4
  have xz1 := S2.z1
  have xz2 := S2.z2
  have xz3 := S2.z3
  have xz4 := S2.z4
  refine (next_v s (k + 2) sl d m _ x hs hj2 c2 _ S2).mono ?_; rintro e w2 ⟨rfl, m3, rfl⟩
  go_wp2_with (first | (go_at_call 218; refine (hexb_yes b2 H2 _).mono ?_; rintro e w2 ⟨rfl, rfl⟩) | (refine wp_loop_unr 6 ?_; refine Unr.step ?_; intro U hU) | (refine Unr.step ?_; intro U hU))
  generalize hW3 : World.setCell _ _ _ = W3
  have S3 : Sc s (k + 3) sl d m x W3 := by rw [← hW3]; exact (S2.drewN m3).setK (k + 3)
  have O3 : Oth w W3 x x := by rw [← hW3]; exact (O2.trans (Oth.drewN _ x x m3)).trans (Oth.setP _ x x 1 _)
  clear xlt xlt1 xlt2 xlt3 x0 x1 x2 x3 x4 xz1 xz2 xz3 xz4
  clear hW3
  have xlt := S3.lt
  have xlt1 : x < W3.heap.size + 1 := by omega
  have xlt2 : x < W3.heap.size + 1 + 1 := by omega
  have xlt3 : x < W3.heap.size + 1 + 1 + 1 := by omega
  have x0 := S3.c0
  have x1 := S3.c1
  have x2 := S3.c2
  have x3 := S3.c3
  have x4 := S3.c4
  have xz1 := S3.z1
  have xz2 := S3.z2
  have xz3 := S3.z3
  have xz4 := S3.z4
  refine (next_v s (k + 3) sl d m _ x hs hj3 c3 _ S3).mono ?_; rintro e w2 ⟨rfl, m4, rfl⟩
  go_wp2_with (first | (go_at_call 218; refine (hexb_yes b3 H3 _).mono ?_; rintro e w2 ⟨rfl, rfl⟩) | (refine wp_loop_unr 6 ?_; refine Unr.step ?_; intro U hU) | (refine Unr.step ?_; intro U hU))
  generalize hW4 : World.setCell _ _ _ = W4
  have S4 : Sc s (k + 4) sl d m x W4 := by rw [← hW4]; exact (S3.drewN m4).setK (k + 4)
  have O4 : Oth w W4 x x := by rw [← hW4]; exact (O3.trans (Oth.drewN _ x x m4)).trans (Oth.setP _ x x 1 _)
  clear xlt xlt1 xlt2 xlt3 x0 x1 x2 x3 x4 xz1 xz2 xz3 xz4
  clear hW4
  have xlt := S4.lt
  have xlt1 : x < W4.heap.size + 1 := by omega
  have xlt2 : x < W4.heap.size + 1 + 1 := by omega
  have xlt3 : x < W4.heap.size + 1 + 1 + 1 := by omega
  have x0 := S4.c0
  have x1 := S4.c1
  have x2 := S4.c2
  have x3 := S4.c3
  have x4 := S4.c4
  have xz1 := S4.z1
  have xz2 := S4.z2
  have xz3 := S4.z3
  have xz4 := S4.z4
  refine (next_v s (k + 4) sl d m _ x hs hj4 c4 _ S4).mono ?_; rintro e w2 ⟨rfl, m5, rfl⟩
  go_wp2_with (first | (go_at_call 218; refine (hexb_yes b4 H4 _).mono ?_; rintro e w2 ⟨rfl, rfl⟩) | (refine wp_loop_unr 6 ?_; refine Unr.step ?_; intro U hU) | (refine Unr.step ?_; intro U hU))
  go_ret
  exact ⟨rfl, (S4.drewN m5).setK (k + 5), (O4.trans (Oth.drewN _ x x m5)).trans (Oth.setP _ x x 1 _)⟩
end Go.Proofs.YtjelneeeijjpiaaGreatDoor
end
