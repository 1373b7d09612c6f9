/- TopText: walks and plain laws, part 20: lemmas on what the functions that the law comes to compute. -/
import Derived.Test.YtjelneeeijjpiaaGreatDoorG19
set_option linter.unusedVariables false
set_option linter.unusedSimpArgs false
section
namespace Go.Proofs.YtjelneeeijjpiaaGreatDoor
open Go.RowKit
structure Rq (w : World) (r g j m cap : Nat) (K : Int) (S : ByteArray) (N A : Int) : Prop where
  lt : r < w.heap.size
  glt : g < w.heap.size
  ne : r ≠ g
  hcap : m + 1 ≤ cap
  c0 : w.cell? ⟨r, 0, none⟩ = some (.slice (some ⟨g, j, none⟩) (m + 1) cap)
  c1 : w.cell? ⟨r, 1, none⟩ = some (.int .i64 4)
  c2 : w.cell? ⟨r, 2, none⟩ = some (.int .i64 0)
  c3 : w.cell? ⟨r, 3, none⟩ = some (.int .i64 0)
  c4 : w.cell? ⟨r, 4, none⟩ = some (.int .i64 0)
  f0 : w.frozen? ⟨r, 0, none⟩ = false
  h0 : w.cell? ⟨g, j, none⟩ = some (.int .i64 K)
  h1 : w.cell? ⟨g, j + 1, none⟩ = some (.string S)
  h2 : w.cell? ⟨g, j + 2, none⟩ = some (.int .i64 N)
  h3 : w.cell? ⟨g, j + 3, none⟩ = some (.int .i64 A)
  h4 : w.cell? ⟨g, j + 4, none⟩ = some (.bool false)
theorem Rq.below {w w' : World} {r g j m cap : Nat} {K : Int} {S : ByteArray} {N A : Int} (h : Rq w r g j m cap K S N A) (hb : Below w.heap.size w w') : Rq w' r g j m cap K S N A :=
  ⟨Nat.lt_of_lt_of_le h.lt hb.size, Nat.lt_of_lt_of_le h.glt hb.size, h.ne, h.hcap, (hb.cell (p := ⟨r, 0, none⟩) h.lt).trans h.c0, (hb.cell (p := ⟨r, 1, none⟩) h.lt).trans h.c1, (hb.cell (p := ⟨r, 2, none⟩) h.lt).trans h.c2, (hb.cell (p := ⟨r, 3, none⟩) h.lt).trans h.c3, (hb.cell (p := ⟨r, 4, none⟩) h.lt).trans h.c4, (hb.frozen (p := ⟨r, 0, none⟩) h.lt).trans h.f0, (hb.cell (p := ⟨g, j, none⟩) h.glt).trans h.h0, (hb.cell (p := ⟨g, j + 1, none⟩) h.glt).trans h.h1, (hb.cell (p := ⟨g, j + 2, none⟩) h.glt).trans h.h2, (hb.cell (p := ⟨g, j + 3, none⟩) h.glt).trans h.h3, (hb.cell (p := ⟨g, j + 4, none⟩) h.glt).trans h.h4⟩
structure RF (r : Nat) (w w' : World) : Prop where
  gr : w.grownBy w' (some r)
  cl : ∀ c, 0 < c → w'.cell? ⟨r, c, none⟩ = w.cell? ⟨r, c, none⟩
  fz : ∀ c, w'.frozen? ⟨r, c, none⟩ = w.frozen? ⟨r, c, none⟩
theorem RF.refl (r : Nat) (w : World) : RF r w w := ⟨⟨rfl, rfl, rfl, Nat.le_refl _, fun _ _ _ => rfl⟩, fun _ _ => rfl, fun _ => rfl⟩
theorem RF.trans {r : Nat} {w w' w'' : World} (h : RF r w w') (k : RF r w' w'') : RF r w w'' :=
  ⟨⟨k.gr.os.trans h.gr.os, k.gr.tape.trans h.gr.tape, k.gr.output.trans h.gr.output, Nat.le_trans h.gr.size k.gr.size, fun i hi hne => (k.gr.block i (Nat.lt_of_lt_of_le hi h.gr.size) hne).trans (h.gr.block i hi hne)⟩, fun c hc => (k.cl c hc).trans (h.cl c hc), fun c => (k.fz c).trans (h.fz c)⟩
theorem RF.below {r : Nat} {w w' : World} (hr : r < w.heap.size) (h : Below w.heap.size w w') : RF r w w' :=
  ⟨⟨h.os, h.tape, h.output, h.size, fun i hi _ => h.block i hi⟩, fun c _ => h.cell (p := ⟨r, c, none⟩) hr, fun c => h.frozen (p := ⟨r, c, none⟩) hr⟩
theorem RF.alloc {r : Nat} {w w' : World} (h : RF r w w') (hr : r < w.heap.size) (o : Obj) : RF r w (w'.alloc o) :=
  h.trans (RF.below (Nat.lt_of_lt_of_le hr h.gr.size) ((Below.refl _ _).alloc (Nat.le_refl _) _))
theorem RF.drew {r : Nat} {w w' : World} (h : RF r w w') (hr : r < w.heap.size) : RF r w w'.drew := h.trans (RF.below (Nat.lt_of_lt_of_le hr h.gr.size) ((Below.refl _ _).drew))
theorem RF.drewN {r : Nat} {w w' : World} (h : RF r w w') (hr : r < w.heap.size) (m : Nat) : RF r w (w'.drewN m) := h.trans (RF.below (Nat.lt_of_lt_of_le hr h.gr.size) (below_drewN' (Below.refl _ _) m))
theorem RF.set {r : Nat} {w w' : World} (h : RF r w w') (v : Value) : RF r w (w'.setCell ⟨r, 0, none⟩ v) :=
  h.trans ⟨⟨rfl, rfl, rfl, by simp [World.setCell], fun i hi hne => Below.heap_setCell _ _ _ _ (by simp; exact fun e => hne (by rw [e]))⟩, fun c hc => World.cell?_setCell_other _ _ _ _ (by intro e; injection e with _ e; omega), fun c => World.frozen?_setCell _ _ _ _⟩
theorem RF.new {r : Nat} {w w' : World} (h : RF r w w') (hr : r < w.heap.size) {a : Addr} (ha : w.heap.size ≤ a.block) (v : Value) : RF r w (w'.setCell a v) :=
  ⟨⟨h.gr.os, h.gr.tape, h.gr.output, by simpa [World.setCell] using h.gr.size, fun i hi hne => (Below.heap_setCell _ _ _ _ (by omega)).trans (h.gr.block i hi hne)⟩, fun c hc => (World.cell?_setCell_other _ _ _ _ (by intro e; rw [e] at ha; simp at ha; omega)).trans (h.cl c hc), fun c => (World.frozen?_setCell _ _ _ _).trans (h.fz c)⟩
theorem RF.far {r : Nat} {w w' : World} (h : RF r w w') {b c : Nat} (hb : b < w.heap.size) (hne : r ≠ b) : w'.cell? ⟨b, c, none⟩ = w.cell? ⟨b, c, none⟩ := World.cell?_of_block (h.gr.block b hb (by simpa using fun e => hne e.symm))
theorem RF.farz {r : Nat} {w w' : World} (h : RF r w w') {b c : Nat} (hb : b < w.heap.size) (hne : r ≠ b) : w'.frozen? ⟨b, c, none⟩ = w.frozen? ⟨b, c, none⟩ := World.frozen?_of_block (h.gr.block b hb (by simpa using fun e => hne e.symm))
set_option maxRecDepth 100000 in
set_option maxHeartbeats 2000000 in
theorem over_q (r g j m cap : Nat) (K : Int) (S : ByteArray) (N A : Int) (w : World) (h : Rq w r g j m cap K S N A) : Calls Tryz.prog 151 #[.pointer (some ⟨r, 0, none⟩)] w fun e w' => e = .returned (.bool false) ∧ w = w' := by
  obtain ⟨lt, glt, ne, hcap, c0, c1, c2, c3, c4, f0, h0, h1, h2, h3, h4⟩ := id h
  have m1 : ¬ ((m : Int) + 1 = 0) := by omega
  have m2 : (0 : Int) < (m : Int) + 1 := by omega
  have m3 : (0 : Int) ≤ (m : Int) + 1 := by omega
  go_enter Tryz.func151, Tryz.ntmps151
  go_wp2_with fail
  go_ret
  exact ⟨rfl, rfl⟩
set_option maxRecDepth 100000 in
set_option maxHeartbeats 2000000 in
theorem kind_q (r g j m cap : Nat) (K : Int) (S : ByteArray) (N A : Int) (w : World) (h : Rq w r g j m cap K S N A) : Calls Tryz.prog 203 #[.pointer (some ⟨r, 0, none⟩)] w fun e w' => e = .returned (.int .i64 K) ∧ w = w' := by
  obtain ⟨lt, glt, ne, hcap, c0, c1, c2, c3, c4, f0, h0, h1, h2, h3, h4⟩ := id h
  have m1 : ¬ ((m : Int) + 1 = 0) := by omega
  have m2 : (0 : Int) < (m : Int) + 1 := by omega
  have m3 : (0 : Int) ≤ (m : Int) + 1 := by omega
  go_enter Tryz.func203, Tryz.ntmps203
  go_wp2_with (first | (go_at_call 151; refine (over_q r g j m cap K S N A _ h).mono ?_; rintro e w9 ⟨rfl, rfl⟩))
  go_wp2_with fail
  go_ret
  exact ⟨rfl, rfl⟩
set_option maxRecDepth 100000 in
set_option maxHeartbeats 2000000 in
theorem is_no (r g j m cap : Nat) (K : Int) (S : ByteArray) (N A : Int) (s : ByteArray) (hK : ¬ K = 1) (w : World) (h : Rq w r g j m cap K S N A) : Calls Tryz.prog 148 #[.pointer (some ⟨r, 0, none⟩), .string s] w fun e w' => e = .returned (.bool false) ∧ w = w' := by
  obtain ⟨lt, glt, ne, hcap, c0, c1, c2, c3, c4, f0, h0, h1, h2, h3, h4⟩ := id h
  have m1 : ¬ ((m : Int) + 1 = 0) := by omega
  have m2 : (0 : Int) < (m : Int) + 1 := by omega
  have m3 : (0 : Int) ≤ (m : Int) + 1 := by omega
  have hK2 : (K == 1) = false := by rw [beq_eq_false_iff_ne]; exact hK
  have hK3 : decide (K = 1) = false := by rw [decide_eq_false_iff_not]; exact hK
  go_enter Tryz.func148, Tryz.ntmps148
  go_wp2_with (first | (go_at_call 203; refine (kind_q r g j m cap K S N A _ h).mono ?_; rintro e w9 ⟨rfl, rfl⟩))
  go_wp2_with fail
  go_ret
  exact ⟨rfl, rfl⟩
set_option maxRecDepth 100000 in
set_option maxHeartbeats 2000000 in
theorem is_s (r g j m cap : Nat) (S : ByteArray) (N A : Int) (s : ByteArray) (b : Bool) (hb : (S.toList == s.toList) = b) (w : World) (h : Rq w r g j m cap 1 S N A) : Calls Tryz.prog 148 #[.pointer (some ⟨r, 0, none⟩), .string s] w fun e w' => e = .returned (.bool b) ∧ w = w' := by
  obtain ⟨lt, glt, ne, hcap, c0, c1, c2, c3, c4, f0, h0, h1, h2, h3, h4⟩ := id h
  have m1 : ¬ ((m : Int) + 1 = 0) := by omega
  have m2 : (0 : Int) < (m : Int) + 1 := by omega
  have m3 : (0 : Int) ≤ (m : Int) + 1 := by omega
  go_enter Tryz.func148, Tryz.ntmps148
  go_wp2_with (first | (go_at_call 203; refine (kind_q r g j m cap 1 S N A _ h).mono ?_; rintro e w9 ⟨rfl, rfl⟩))
  go_wp2_with fail
  go_ret
  exact ⟨by simp [hb], rfl⟩
def NextP (w : World) (r g j m cap : Nat) (K : Int) (S : ByteArray) (N A : Int) (e : Ending) (w' : World) : Prop := e = .returned (.agg #[.int .i64 K, .string S, .int .i64 N, .int .i64 A, .bool false]) ∧ RF r w w' ∧ (0 < m → w'.cell? ⟨r, 0, none⟩ = some (.slice (some ⟨g, j + 5, none⟩) m (cap - 1))) ∧ (m = 0 → ∃ o c, w'.cell? ⟨r, 0, none⟩ = some (.slice (some ⟨g, o, none⟩) 0 c))
set_option maxRecDepth 100000 in
set_option maxHeartbeats 2000000 in
theorem next_c (r g j m c : Nat) (K : Int) (S : ByteArray) (N A : Int) (w : World) (h : Rq w r g j m (c + 2) K S N A) : Calls Tryz.prog 206 #[.pointer (some ⟨r, 0, none⟩)] w fun e w' => NextP w r g j m (c + 2) K S N A e w' := by
  obtain ⟨lt, glt, ne, hcap, c0, c1, c2, c3, c4, f0, h0, h1, h2, h3, h4⟩ := id h
  have m1 : ¬ ((m : Int) + 1 = 0) := by omega
  have m2 : (0 : Int) < (m : Int) + 1 := by omega
  have m3 : (0 : Int) ≤ (m : Int) + 1 := by omega
  have glt := glt
  have rlt := lt
  have gr : ¬ g = r := fun e => ne e.symm
  have rg : ¬ r = g := ne
  have glt1 : g < w.heap.size + 1 := by omega
  have glt2 : g < w.heap.size + 1 + 1 := by omega
  have glt3 : g < w.heap.size + 1 + 1 + 1 := by omega
  have glt4 : g < w.heap.size + 1 + 1 + 1 + 1 := by omega
  have rlt1 : r < w.heap.size + 1 := by omega
  have rlt2 : r < w.heap.size + 1 + 1 := by omega
  have rlt3 : r < w.heap.size + 1 + 1 + 1 := by omega
  have rlt4 : r < w.heap.size + 1 + 1 + 1 + 1 := by omega
  go_enter Tryz.func206, Tryz.ntmps206
  go_wp2_with (first | (go_at_call 151; refine (over_q r g j m (c + 2) K S N A _ (h.below (by (repeat' (first | exact Below.refl _ _ | exact Hid.out (by assumption) | refine Below.alloc ?_ (by first | (simp; done) | (simp; omega) | omega) _ | refine Below.setCell ?_ (by first | (simp; done) | (simp; omega) | omega) _ | refine below_drewN' ?_ _ | refine Below.drew ?_))))).mono ?_; rintro e w9 ⟨rfl, rfl⟩))
  try simp only [Exit.inBlock, Exit.then]
  refine bodyPost_ret (v := .agg #[.int .i64 K, .string S, .int .i64 N, .int .i64 A, .bool false]) (by simp [results, Tryz.results206, go_sem, *]) rfl ⟨rfl, by (repeat' (first | refine RF.new ?_ lt (by first | (simp; done) | (simp; omega) | omega) _ | (refine RF.alloc ?_ lt _) | (refine RF.drew ?_ lt) | refine RF.set ?_ _ | exact Hid.out (by assumption) | exact RF.refl _ _)), fun _ => by simp [go_sem, *], fun e => by subst e; exact ⟨j + 5, c + 1, by simp [go_sem, *]⟩⟩
set_option maxRecDepth 100000 in
set_option maxHeartbeats 2000000 in
theorem next_1 (r g j : Nat) (K : Int) (S : ByteArray) (N A : Int) (w : World) (h : Rq w r g j 0 1 K S N A) : Calls Tryz.prog 206 #[.pointer (some ⟨r, 0, none⟩)] w fun e w' => NextP w r g j 0 1 K S N A e w' := by
  obtain ⟨lt, glt, ne, hcap, c0, c1, c2, c3, c4, f0, h0, h1, h2, h3, h4⟩ := id h
  have glt := glt
  have rlt := lt
  have gr : ¬ g = r := fun e => ne e.symm
  have rg : ¬ r = g := ne
  have glt1 : g < w.heap.size + 1 := by omega
  have glt2 : g < w.heap.size + 1 + 1 := by omega
  have glt3 : g < w.heap.size + 1 + 1 + 1 := by omega
  have glt4 : g < w.heap.size + 1 + 1 + 1 + 1 := by omega
  have rlt1 : r < w.heap.size + 1 := by omega
  have rlt2 : r < w.heap.size + 1 + 1 := by omega
  have rlt3 : r < w.heap.size + 1 + 1 + 1 := by omega
  have rlt4 : r < w.heap.size + 1 + 1 + 1 + 1 := by omega
  go_enter Tryz.func206, Tryz.ntmps206
  go_wp2_with (first | (go_at_call 151; refine (over_q r g j 0 1 K S N A _ (h.below (by (repeat' (first | exact Below.refl _ _ | exact Hid.out (by assumption) | refine Below.alloc ?_ (by first | (simp; done) | (simp; omega) | omega) _ | refine Below.setCell ?_ (by first | (simp; done) | (simp; omega) | omega) _ | refine below_drewN' ?_ _ | refine Below.drew ?_))))).mono ?_; rintro e w9 ⟨rfl, rfl⟩))
  try simp only [Exit.inBlock, Exit.then]
  refine bodyPost_ret (v := .agg #[.int .i64 K, .string S, .int .i64 N, .int .i64 A, .bool false]) (by simp [results, Tryz.results206, go_sem, *]) rfl ⟨rfl, by (repeat' (first | refine RF.new ?_ lt (by first | (simp; done) | (simp; omega) | omega) _ | (refine RF.alloc ?_ lt _) | (refine RF.drew ?_ lt) | refine RF.set ?_ _ | exact Hid.out (by assumption) | exact RF.refl _ _)), fun e => absurd e (by omega), fun _ => ⟨j, 0, by simp [go_sem, *]⟩⟩
theorem next_q (r g j m cap : Nat) (K : Int) (S : ByteArray) (N A : Int) (w : World) (h : Rq w r g j m cap K S N A) : Calls Tryz.prog 206 #[.pointer (some ⟨r, 0, none⟩)] w fun e w' => NextP w r g j m cap K S N A e w' := by
  have hc := h.hcap
  obtain ⟨c, rfl⟩ | rfl : (∃ c, cap = c + 2) ∨ cap = 1 := by
    by_cases h1 : cap = 1
    · exact .inr h1
    · exact .inl ⟨cap - 2, by omega⟩
  · exact next_c r g j m c K S N A w h
  · obtain rfl : m = 0 := by omega
    exact next_1 r g j K S N A w h
theorem Rq.setO {w : World} {r g j m cap : Nat} {K : Int} {S : ByteArray} {N A : Int} (h : Rq w r g j m cap K S N A) {a : Addr} (h1 : a.block ≠ r) (h2 : a.block ≠ g) (v : Value) : Rq (w.setCell a v) r g j m cap K S N A :=
  ⟨by simpa [World.setCell] using h.lt, by simpa [World.setCell] using h.glt, h.ne, h.hcap, (World.cell?_setCell_other _ _ _ _ (by intro e; exact h1 (by rw [e]))).trans h.c0, (World.cell?_setCell_other _ _ _ _ (by intro e; exact h1 (by rw [e]))).trans h.c1, (World.cell?_setCell_other _ _ _ _ (by intro e; exact h1 (by rw [e]))).trans h.c2, (World.cell?_setCell_other _ _ _ _ (by intro e; exact h1 (by rw [e]))).trans h.c3, (World.cell?_setCell_other _ _ _ _ (by intro e; exact h1 (by rw [e]))).trans h.c4, (World.frozen?_setCell _ _ _ _).trans h.f0, (World.cell?_setCell_other _ _ _ _ (by intro e; exact h2 (by rw [e]))).trans h.h0, (World.cell?_setCell_other _ _ _ _ (by intro e; exact h2 (by rw [e]))).trans h.h1, (World.cell?_setCell_other _ _ _ _ (by intro e; exact h2 (by rw [e]))).trans h.h2, (World.cell?_setCell_other _ _ _ _ (by intro e; exact h2 (by rw [e]))).trans h.h3, (World.cell?_setCell_other _ _ _ _ (by intro e; exact h2 (by rw [e]))).trans h.h4⟩
theorem rf_step {r : Nat} {w W w' : World} (a : RF r w W) (hf : RF r W w') : Hid (RF r w w') := Lib.hid (a.trans hf)
theorem Rq.step {w w' : World} {r g j m cap : Nat} {K : Int} {S : ByteArray} {N A : Int} (h : Rq w r g j (m + 1) cap K S N A) (hf : RF r w w') (c0 : w'.cell? ⟨r, 0, none⟩ = some (.slice (some ⟨g, j + 5, none⟩) (m + 1) (cap - 1))) {K' : Int} {S' : ByteArray} {N' A' : Int} (h0 : w.cell? ⟨g, j + 5, none⟩ = some (.int .i64 K')) (h1 : w.cell? ⟨g, j + 5 + 1, none⟩ = some (.string S')) (h2 : w.cell? ⟨g, j + 5 + 2, none⟩ = some (.int .i64 N')) (h3 : w.cell? ⟨g, j + 5 + 3, none⟩ = some (.int .i64 A')) (h4 : w.cell? ⟨g, j + 5 + 4, none⟩ = some (.bool false)) : Rq w' r g (j + 5) m (cap - 1) K' S' N' A' :=
  ⟨Nat.lt_of_lt_of_le h.lt hf.gr.size, Nat.lt_of_lt_of_le h.glt hf.gr.size, h.ne, by have := h.hcap; omega, c0, (hf.cl 1 (by omega)).trans h.c1, (hf.cl 2 (by omega)).trans h.c2, (hf.cl 3 (by omega)).trans h.c3, (hf.cl 4 (by omega)).trans h.c4, (hf.fz 0).trans h.f0, (hf.far h.glt h.ne).trans h0, (hf.far h.glt h.ne).trans h1, (hf.far h.glt h.ne).trans h2, (hf.far h.glt h.ne).trans h3, (hf.far h.glt h.ne).trans h4⟩
abbrev Rd0 (w : World) (r g cap : Nat) : Prop := Rq w r g 0 3 cap 1 ⟨#[36]⟩ 0 0 ∧ Tk w g
abbrev Rd1 (w : World) (r g cap : Nat) : Prop := Rq w r g 5 2 cap 1 ⟨#[91]⟩ 0 1 ∧ Tk w g
abbrev Rd2 (w : World) (r g cap : Nat) : Prop := Rq w r g 10 1 cap 3 ⟨#[]⟩ 0 2 ∧ Tk w g
abbrev Rd3 (w : World) (r g cap : Nat) : Prop := Rq w r g 15 0 cap 1 ⟨#[93]⟩ 0 3 ∧ Tk w g
structure Rd4 (w : World) (r g : Nat) : Prop where
  lt : r < w.heap.size
  c0 : ∃ o c, w.cell? ⟨r, 0, none⟩ = some (.slice (some ⟨g, o, none⟩) 0 c)
  c1 : w.cell? ⟨r, 1, none⟩ = some (.int .i64 4)
  c2 : w.cell? ⟨r, 2, none⟩ = some (.int .i64 0)
  c3 : w.cell? ⟨r, 3, none⟩ = some (.int .i64 0)
  c4 : w.cell? ⟨r, 4, none⟩ = some (.int .i64 0)
theorem Rd4.below {w w' : World} {r g : Nat} (h : Rd4 w r g) (hb : Below w.heap.size w w') : Rd4 w' r g := by
  obtain ⟨o, c, h0⟩ := h.c0
  exact ⟨Nat.lt_of_lt_of_le h.lt hb.size, ⟨o, c, (hb.cell (p := ⟨r, 0, none⟩) h.lt).trans h0⟩, (hb.cell (p := ⟨r, 1, none⟩) h.lt).trans h.c1, (hb.cell (p := ⟨r, 2, none⟩) h.lt).trans h.c2, (hb.cell (p := ⟨r, 3, none⟩) h.lt).trans h.c3, (hb.cell (p := ⟨r, 4, none⟩) h.lt).trans h.c4⟩
theorem Rd4.of {w w' : World} {r g j cap : Nat} {K : Int} {S : ByteArray} {N A : Int} (h : Rq w r g j 0 cap K S N A) (hf : RF r w w') (c0 : ∃ o c, w'.cell? ⟨r, 0, none⟩ = some (.slice (some ⟨g, o, none⟩) 0 c)) : Rd4 w' r g :=
  ⟨Nat.lt_of_lt_of_le h.lt hf.gr.size, c0, (hf.cl 1 (by omega)).trans h.c1, (hf.cl 2 (by omega)).trans h.c2, (hf.cl 3 (by omega)).trans h.c3, (hf.cl 4 (by omega)).trans h.c4⟩
theorem Rd4.setO {w : World} {r g : Nat} (h : Rd4 w r g) {a : Addr} (h1 : a.block ≠ r) (v : Value) : Rd4 (w.setCell a v) r g := by
  obtain ⟨o, c, h0⟩ := h.c0
  have ho : ∀ c, (w.setCell a v).cell? ⟨r, c, none⟩ = w.cell? ⟨r, c, none⟩ := fun c => World.cell?_setCell_other _ _ _ _ (by intro e; exact h1 (by rw [e]))
  exact ⟨by simpa [World.setCell] using h.lt, ⟨o, c, (ho 0).trans h0⟩, (ho 1).trans h.c1, (ho 2).trans h.c2, (ho 3).trans h.c3, (ho 4).trans h.c4⟩
theorem Tk.rf {w w' : World} {r g : Nat} (h : Tk w g) (hf : RF r w w') (hne : r ≠ g) : Tk w' g :=
  ⟨Nat.lt_of_lt_of_le h.lt hf.gr.size, (hf.far h.lt hne).trans h.c0, (hf.far h.lt hne).trans h.c1, (hf.far h.lt hne).trans h.c2, (hf.far h.lt hne).trans h.c3, (hf.far h.lt hne).trans h.c4, (hf.far h.lt hne).trans h.c5, (hf.far h.lt hne).trans h.c6, (hf.far h.lt hne).trans h.c7, (hf.far h.lt hne).trans h.c8, (hf.far h.lt hne).trans h.c9, (hf.far h.lt hne).trans h.c10, (hf.far h.lt hne).trans h.c11, (hf.far h.lt hne).trans h.c12, (hf.far h.lt hne).trans h.c13, (hf.far h.lt hne).trans h.c14, (hf.far h.lt hne).trans h.c15, (hf.far h.lt hne).trans h.c16, (hf.far h.lt hne).trans h.c17, (hf.far h.lt hne).trans h.c18, (hf.far h.lt hne).trans h.c19⟩
theorem next_0 (r g cap : Nat) (w : World) (h : Rd0 w r g cap) : Calls Tryz.prog 206 #[.pointer (some ⟨r, 0, none⟩)] w fun e w' => e = .returned (.agg #[.int .i64 1, .string ⟨#[36]⟩, .int .i64 0, .int .i64 0, .bool false]) ∧ RF r w w' ∧ Rd1 w' r g (cap - 1) :=
  (next_q r g 0 3 cap 1 _ 0 0 w h.1).mono fun e w' ⟨h1, h2, h3, _⟩ => ⟨h1, h2, h.1.step h2 (h3 (by omega)) h.2.c5 h.2.c6 h.2.c7 h.2.c8 h.2.c9, h.2.rf h2 h.1.ne⟩
theorem next_1' (r g cap : Nat) (w : World) (h : Rd1 w r g cap) : Calls Tryz.prog 206 #[.pointer (some ⟨r, 0, none⟩)] w fun e w' => e = .returned (.agg #[.int .i64 1, .string ⟨#[91]⟩, .int .i64 0, .int .i64 1, .bool false]) ∧ RF r w w' ∧ Rd2 w' r g (cap - 1) :=
  (next_q r g 5 2 cap 1 _ 0 1 w h.1).mono fun e w' ⟨h1, h2, h3, _⟩ => ⟨h1, h2, h.1.step h2 (h3 (by omega)) h.2.c10 h.2.c11 h.2.c12 h.2.c13 h.2.c14, h.2.rf h2 h.1.ne⟩
theorem next_2 (r g cap : Nat) (w : World) (h : Rd2 w r g cap) : Calls Tryz.prog 206 #[.pointer (some ⟨r, 0, none⟩)] w fun e w' => e = .returned (.agg #[.int .i64 3, .string ⟨#[]⟩, .int .i64 0, .int .i64 2, .bool false]) ∧ RF r w w' ∧ Rd3 w' r g (cap - 1) :=
  (next_q r g 10 1 cap 3 _ 0 2 w h.1).mono fun e w' ⟨h1, h2, h3, _⟩ => ⟨h1, h2, h.1.step h2 (h3 (by omega)) h.2.c15 h.2.c16 h.2.c17 h.2.c18 h.2.c19, h.2.rf h2 h.1.ne⟩
theorem next_3 (r g cap : Nat) (w : World) (h : Rd3 w r g cap) : Calls Tryz.prog 206 #[.pointer (some ⟨r, 0, none⟩)] w fun e w' => e = .returned (.agg #[.int .i64 1, .string ⟨#[93]⟩, .int .i64 0, .int .i64 3, .bool false]) ∧ RF r w w' ∧ Rd4 w' r g :=
  (next_q r g 15 0 cap 1 _ 0 3 w h.1).mono fun e w' ⟨h1, h2, _, h4⟩ => ⟨h1, h2, .of h.1 h2 (h4 rfl)⟩
set_option maxRecDepth 100000 in
set_option maxHeartbeats 2000000 in
theorem take_1 (r g cap : Nat) (w : World) (h : Rd1 w r g cap) : Calls Tryz.prog 273 #[.pointer (some ⟨r, 0, none⟩), .string ⟨#[91]⟩] w fun e w' => e = .returned (.bool true) ∧ RF r w w' ∧ Rd2 w' r g (cap - 1) := by
  have lt := h.1.lt
  have glt := h.1.glt
  go_enter Tryz.func273, Tryz.ntmps273
  go_wp2_with fail
  refine (is_s r g _ _ _ _ _ _ _ true (by simp only [ByteArray.toList_eq]; decide) _ (Rq.below h.1 (by (repeat' (first | exact Below.refl _ _ | exact Hid.out (by assumption) | refine Below.alloc ?_ (by first | (simp; done) | (simp; omega) | omega) _ | refine Below.setCell ?_ (by first | (simp; done) | (simp; omega) | omega) _ | refine below_drewN' ?_ _ | refine Below.drew ?_))))).mono ?_; rintro e w9 ⟨rfl, rfl⟩
  go_wp2_with fail
  refine (next_1' r g cap _ h).mono ?_; rintro e w1 ⟨rfl, hf, hn⟩
  go_wp2_with fail
  go_ret
  exact ⟨rfl, hf, hn⟩
set_option maxRecDepth 100000 in
set_option maxHeartbeats 2000000 in
theorem must_1 (r g cap : Nat) (w : World) (h : Rd1 w r g cap) : Calls Tryz.prog 317 #[.pointer (some ⟨r, 0, none⟩), .string ⟨#[91]⟩] w fun e w' => e = .returned (.tuple #[]) ∧ RF r w w' ∧ Rd2 w' r g (cap - 1) := by
  have lt := h.1.lt
  have glt := h.1.glt
  go_enter Tryz.func317, Tryz.ntmps317
  go_wp2_with fail
  refine (take_1 r g cap _ h).mono ?_; rintro e w1 ⟨rfl, hf, hn⟩
  go_wp2_with fail
  refine bodyPost_end (v := .tuple #[]) (by simp [results, Tryz.results317, go_sem]) rfl ⟨rfl, hf, hn⟩
set_option maxRecDepth 100000 in
set_option maxHeartbeats 2000000 in
theorem take_3 (r g cap : Nat) (w : World) (h : Rd3 w r g cap) : Calls Tryz.prog 273 #[.pointer (some ⟨r, 0, none⟩), .string ⟨#[93]⟩] w fun e w' => e = .returned (.bool true) ∧ RF r w w' ∧ Rd4 w' r g := by
  have lt := h.1.lt
  have glt := h.1.glt
  go_enter Tryz.func273, Tryz.ntmps273
  go_wp2_with fail
  refine (is_s r g _ _ _ _ _ _ _ true (by simp only [ByteArray.toList_eq]; decide) _ (Rq.below h.1 (by (repeat' (first | exact Below.refl _ _ | exact Hid.out (by assumption) | refine Below.alloc ?_ (by first | (simp; done) | (simp; omega) | omega) _ | refine Below.setCell ?_ (by first | (simp; done) | (simp; omega) | omega) _ | refine below_drewN' ?_ _ | refine Below.drew ?_))))).mono ?_; rintro e w9 ⟨rfl, rfl⟩
  go_wp2_with fail
  refine (next_3 r g cap _ h).mono ?_; rintro e w1 ⟨rfl, hf, hn⟩
  go_wp2_with fail
  go_ret
  exact ⟨rfl, hf, hn⟩
set_option maxRecDepth 100000 in
set_option maxHeartbeats 2000000 in
theorem must_3 (r g cap : Nat) (w : World) (h : Rd3 w r g cap) : Calls Tryz.prog 317 #[.pointer (some ⟨r, 0, none⟩), .string ⟨#[93]⟩] w fun e w' => e = .returned (.tuple #[]) ∧ RF r w w' ∧ Rd4 w' r g := by
  have lt := h.1.lt
  have glt := h.1.glt
  go_enter Tryz.func317, Tryz.ntmps317
  go_wp2_with fail
  refine (take_3 r g cap _ h).mono ?_; rintro e w1 ⟨rfl, hf, hn⟩
  go_wp2_with fail
  refine bodyPost_end (v := .tuple #[]) (by simp [results, Tryz.results317, go_sem]) rfl ⟨rfl, hf, hn⟩
set_option maxRecDepth 100000 in
set_option maxHeartbeats 2000000 in
theorem number_2 (r g cap : Nat) (w : World) (h : Rd2 w r g cap) : Calls Tryz.prog 368 #[.pointer (some ⟨r, 0, none⟩)] w fun e w' => e = .returned (.tuple #[.int .i64 0, .bool true]) ∧ RF r w w' ∧ Rd3 w' r g (cap - 1) := by
  have lt := h.1.lt
  have glt := h.1.glt
  have hfd : ∀ w : World, (Instr.field 325 (.agg #[.int .i64 3, .string ⟨#[]⟩, .int .i64 0, .int .i64 2, .bool false]) 2).run Tryz.prog w = .ok (.int .i64 0) w := fun _ => by kernel_rfl
  go_enter Tryz.func368, Tryz.ntmps368
  go_wp2_with (first | (go_at_call 203; refine (kind_q r g _ _ _ _ _ _ _ _ h.1).mono ?_; rintro e w9 ⟨rfl, rfl⟩))
  refine (next_2 r g cap _ h).mono ?_; rintro e w1 ⟨rfl, hf, hn⟩
  go_wp2_with fail
  go_ret2
  exact ⟨rfl, hf, hn⟩
theorem take_no (r g j m cap : Nat) (S : ByteArray) (N A : Int) (s : ByteArray) (hb : (S.toList == s.toList) = false) (w : World) (h : Rq w r g j m cap 1 S N A) : Calls Tryz.prog 273 #[.pointer (some ⟨r, 0, none⟩), .string s] w fun e w' => e = .returned (.bool false) ∧ w = w' := by
  go_enter Tryz.func273, Tryz.ntmps273
  go_wp2_with fail
  refine (is_s r g j m cap S N A s false hb w h).mono ?_; rintro e w1 ⟨rfl, rfl⟩
  go_wp2_with fail
  go_ret
  exact ⟨rfl, rfl⟩
theorem take_non (r g j m cap : Nat) (K : Int) (S : ByteArray) (N A : Int) (s : ByteArray) (hK : ¬ K = 1) (w : World) (h : Rq w r g j m cap K S N A) : Calls Tryz.prog 273 #[.pointer (some ⟨r, 0, none⟩), .string s] w fun e w' => e = .returned (.bool false) ∧ w = w' := by
  go_enter Tryz.func273, Tryz.ntmps273
  go_wp2_with fail
  refine (is_no r g j m cap K S N A s hK w h).mono ?_; rintro e w1 ⟨rfl, rfl⟩
  go_wp2_with fail
  go_ret
  exact ⟨rfl, rfl⟩
set_option maxRecDepth 100000 in
set_option maxHeartbeats 2000000 in
theorem numbers_2 (r g cap : Nat) (w : World) (h : Rd2 w r g cap) : Calls Tryz.prog 351 #[.pointer (some ⟨r, 0, none⟩)] w fun e w' => e = .returned (.agg #[.int .i64 2, .string ⟨#[]⟩, .int .i64 0, .int .i64 0, .int .i64 0, .int .i64 0, .bool false, .bool false, .pointer none]) ∧ RF r w w' ∧ Rd3 w' r g (cap - 1) := by
  have lt := h.1.lt
  have glt := h.1.glt
  go_enter Tryz.func351, Tryz.ntmps351
  go_wp2_with fail
  refine (number_2 r g cap _ (⟨h.1.below (by (repeat' (first | exact Below.refl _ _ | exact Hid.out (by assumption) | refine Below.alloc ?_ (by first | (simp; done) | (simp; omega) | omega) _ | refine Below.setCell ?_ (by first | (simp; done) | (simp; omega) | omega) _ | refine below_drewN' ?_ _ | refine Below.drew ?_))), h.2.below (by (repeat' (first | exact Below.refl _ _ | exact Hid.out (by assumption) | refine Below.alloc ?_ (by first | (simp; done) | (simp; omega) | omega) _ | refine Below.setCell ?_ (by first | (simp; done) | (simp; omega) | omega) _ | refine below_drewN' ?_ _ | refine Below.drew ?_)))⟩)).mono ?_; rintro e w1 ⟨rfl, hf, hn⟩
  have s1 := hf.gr.size; try simp at s1
  try (have l1_0 : w.heap.size < w1.heap.size := by omega)
  try (have l1_1 : w.heap.size < w1.heap.size + 1 := by omega)
  try (have l1_2 : w.heap.size < w1.heap.size + 1 + 1 := by omega)
  try (have lr1 : r < w1.heap.size := by omega)
  try (have e1_0 := hf.far (b := w.heap.size) (c := 0) (by first | (simp; done) | (simp; omega) | omega) (by omega); simp [go_sem] at e1_0)
  try (have f1_0 := hf.farz (b := w.heap.size) (c := 0) (by first | (simp; done) | (simp; omega) | omega) (by omega); simp [go_sem] at f1_0)
  try (have e1_1 := hf.far (b := w.heap.size) (c := 1) (by first | (simp; done) | (simp; omega) | omega) (by omega); simp [go_sem] at e1_1)
  try (have f1_1 := hf.farz (b := w.heap.size) (c := 1) (by first | (simp; done) | (simp; omega) | omega) (by omega); simp [go_sem] at f1_1)
  try (have e1_2 := hf.far (b := w.heap.size) (c := 2) (by first | (simp; done) | (simp; omega) | omega) (by omega); simp [go_sem] at e1_2)
  try (have f1_2 := hf.farz (b := w.heap.size) (c := 2) (by first | (simp; done) | (simp; omega) | omega) (by omega); simp [go_sem] at f1_2)
  try (have e1_3 := hf.far (b := w.heap.size) (c := 3) (by first | (simp; done) | (simp; omega) | omega) (by omega); simp [go_sem] at e1_3)
  try (have f1_3 := hf.farz (b := w.heap.size) (c := 3) (by first | (simp; done) | (simp; omega) | omega) (by omega); simp [go_sem] at f1_3)
  try (have e1_4 := hf.far (b := w.heap.size) (c := 4) (by first | (simp; done) | (simp; omega) | omega) (by omega); simp [go_sem] at e1_4)
  try (have f1_4 := hf.farz (b := w.heap.size) (c := 4) (by first | (simp; done) | (simp; omega) | omega) (by omega); simp [go_sem] at f1_4)
  try (have e1_5 := hf.far (b := w.heap.size) (c := 5) (by first | (simp; done) | (simp; omega) | omega) (by omega); simp [go_sem] at e1_5)
  try (have f1_5 := hf.farz (b := w.heap.size) (c := 5) (by first | (simp; done) | (simp; omega) | omega) (by omega); simp [go_sem] at f1_5)
  try (have e1_6 := hf.far (b := w.heap.size) (c := 6) (by first | (simp; done) | (simp; omega) | omega) (by omega); simp [go_sem] at e1_6)
  try (have f1_6 := hf.farz (b := w.heap.size) (c := 6) (by first | (simp; done) | (simp; omega) | omega) (by omega); simp [go_sem] at f1_6)
  try (have e1_7 := hf.far (b := w.heap.size) (c := 7) (by first | (simp; done) | (simp; omega) | omega) (by omega); simp [go_sem] at e1_7)
  try (have f1_7 := hf.farz (b := w.heap.size) (c := 7) (by first | (simp; done) | (simp; omega) | omega) (by omega); simp [go_sem] at f1_7)
  try (have e1_8 := hf.far (b := w.heap.size) (c := 8) (by first | (simp; done) | (simp; omega) | omega) (by omega); simp [go_sem] at e1_8)
  try (have f1_8 := hf.farz (b := w.heap.size) (c := 8) (by first | (simp; done) | (simp; omega) | omega) (by omega); simp [go_sem] at f1_8)
  have F1 := rf_step (r := r) (w := w) (by (repeat' (first | refine RF.new ?_ lt (by first | (simp; done) | (simp; omega) | omega) _ | (refine RF.alloc ?_ lt _) | (refine RF.drew ?_ lt) | refine RF.set ?_ _ | exact Hid.out (by assumption) | exact RF.refl _ _))) hf
  clear hf
  go_wp2_with fail
  refine (take_no r g _ _ _ _ _ _ _ (by simp only [ByteArray.toList_eq]; decide) _ (Rq.below hn.1 (by (repeat' (first | exact Below.refl _ _ | exact Hid.out (by assumption) | refine Below.alloc ?_ (by first | (simp; done) | (simp; omega) | omega) _ | refine Below.setCell ?_ (by first | (simp; done) | (simp; omega) | omega) _ | refine below_drewN' ?_ _ | refine Below.drew ?_))))).mono ?_; rintro e w2 ⟨rfl, rfl⟩
  go_wp2_with fail
  try simp only [Exit.inBlock, Exit.then]
  refine bodyPost_ret (v := .agg #[.int .i64 2, .string ⟨#[]⟩, .int .i64 0, .int .i64 0, .int .i64 0, .int .i64 0, .bool false, .bool false, .pointer none]) (by simp [results, Tryz.results351, go_sem, e1_0, e1_1, e1_2, e1_3, e1_4, e1_5, e1_6, e1_7, e1_8]) rfl ⟨rfl, by (repeat' (first | refine RF.new ?_ lt (by first | (simp; done) | (simp; omega) | omega) _ | (refine RF.alloc ?_ lt _) | (refine RF.drew ?_ lt) | refine RF.set ?_ _ | exact Hid.out (by assumption) | exact RF.refl _ _)), ⟨(by repeat' (first | refine Rq.setO ?_ (by first | (simp; done) | (simp; omega) | omega) (by first | (simp; done) | (simp; omega) | omega) _ | refine Rq.below ?_ ((Below.refl _ _).alloc (Nat.le_refl _) _) | exact hn.1)), (by repeat' (first | refine Tk.set ?_ _ _ (by first | (simp; done) | (simp; omega) | omega) | refine Tk.below ?_ ((Below.refl _ _).alloc (Nat.le_refl _) _) | exact hn.2))⟩⟩
set_option maxRecDepth 100000 in
set_option maxHeartbeats 2000000 in
theorem sel_2 (r g cap : Nat) (w : World) (h : Rd2 w r g cap) : Calls Tryz.prog 318 #[.pointer (some ⟨r, 0, none⟩)] w fun e w' => e = .returned (.agg #[.int .i64 2, .string ⟨#[]⟩, .int .i64 0, .int .i64 0, .int .i64 0, .int .i64 0, .bool false, .bool false, .pointer none]) ∧ RF r w w' ∧ Rd3 w' r g (cap - 1) := by
  have lt := h.1.lt
  have glt := h.1.glt
  go_enter Tryz.func318, Tryz.ntmps318
  go_wp2_with (first | (go_at_call 203; refine (kind_q r g _ _ _ _ _ _ _ _ (Rq.below h.1 ((Below.refl _ _).alloc (Nat.le_refl _) _))).mono ?_; rintro e w9 ⟨rfl, rfl⟩) | (go_at_call 273; refine (take_non r g _ _ _ _ _ _ _ _ (by decide) _ (Rq.below h.1 ((Below.refl _ _).alloc (Nat.le_refl _) _))).mono ?_; rintro e w9 ⟨rfl, rfl⟩) | (go_at_call 148; refine (is_no r g _ _ _ _ _ _ _ _ (by decide) _ (Rq.below h.1 ((Below.refl _ _).alloc (Nat.le_refl _) _))).mono ?_; rintro e w9 ⟨rfl, rfl⟩))
  refine (numbers_2 r g cap _ ⟨(by repeat' (first | refine Rq.setO ?_ (by first | (simp; done) | (simp; omega) | omega) (by first | (simp; done) | (simp; omega) | omega) _ | refine Rq.below ?_ ((Below.refl _ _).alloc (Nat.le_refl _) _) | exact h.1)), (by repeat' (first | refine Tk.set ?_ _ _ (by first | (simp; done) | (simp; omega) | omega) | refine Tk.below ?_ ((Below.refl _ _).alloc (Nat.le_refl _) _) | exact h.2))⟩).mono ?_; rintro e w1 ⟨rfl, hf, hn⟩
  have s1 := hf.gr.size; try simp at s1
  try (have l1_0 : w.heap.size < w1.heap.size := by omega)
  try (have l1_1 : w.heap.size < w1.heap.size + 1 := by omega)
  try (have l1_2 : w.heap.size < w1.heap.size + 1 + 1 := by omega)
  try (have lr1 : r < w1.heap.size := by omega)
  try (have e1_0 := hf.far (b := w.heap.size) (c := 0) (by first | (simp; done) | (simp; omega) | omega) (by omega); simp [go_sem] at e1_0)
  try (have f1_0 := hf.farz (b := w.heap.size) (c := 0) (by first | (simp; done) | (simp; omega) | omega) (by omega); simp [go_sem] at f1_0)
  try (have e1_1 := hf.far (b := w.heap.size) (c := 1) (by first | (simp; done) | (simp; omega) | omega) (by omega); simp [go_sem] at e1_1)
  try (have f1_1 := hf.farz (b := w.heap.size) (c := 1) (by first | (simp; done) | (simp; omega) | omega) (by omega); simp [go_sem] at f1_1)
  try (have e1_2 := hf.far (b := w.heap.size) (c := 2) (by first | (simp; done) | (simp; omega) | omega) (by omega); simp [go_sem] at e1_2)
  try (have f1_2 := hf.farz (b := w.heap.size) (c := 2) (by first | (simp; done) | (simp; omega) | omega) (by omega); simp [go_sem] at f1_2)
  try (have e1_3 := hf.far (b := w.heap.size) (c := 3) (by first | (simp; done) | (simp; omega) | omega) (by omega); simp [go_sem] at e1_3)
  try (have f1_3 := hf.farz (b := w.heap.size) (c := 3) (by first | (simp; done) | (simp; omega) | omega) (by omega); simp [go_sem] at f1_3)
  try (have e1_4 := hf.far (b := w.heap.size) (c := 4) (by first | (simp; done) | (simp; omega) | omega) (by omega); simp [go_sem] at e1_4)
  try (have f1_4 := hf.farz (b := w.heap.size) (c := 4) (by first | (simp; done) | (simp; omega) | omega) (by omega); simp [go_sem] at f1_4)
  try (have e1_5 := hf.far (b := w.heap.size) (c := 5) (by first | (simp; done) | (simp; omega) | omega) (by omega); simp [go_sem] at e1_5)
  try (have f1_5 := hf.farz (b := w.heap.size) (c := 5) (by first | (simp; done) | (simp; omega) | omega) (by omega); simp [go_sem] at f1_5)
  try (have e1_6 := hf.far (b := w.heap.size) (c := 6) (by first | (simp; done) | (simp; omega) | omega) (by omega); simp [go_sem] at e1_6)
  try (have f1_6 := hf.farz (b := w.heap.size) (c := 6) (by first | (simp; done) | (simp; omega) | omega) (by omega); simp [go_sem] at f1_6)
  try (have e1_7 := hf.far (b := w.heap.size) (c := 7) (by first | (simp; done) | (simp; omega) | omega) (by omega); simp [go_sem] at e1_7)
  try (have f1_7 := hf.farz (b := w.heap.size) (c := 7) (by first | (simp; done) | (simp; omega) | omega) (by omega); simp [go_sem] at f1_7)
  try (have e1_8 := hf.far (b := w.heap.size) (c := 8) (by first | (simp; done) | (simp; omega) | omega) (by omega); simp [go_sem] at e1_8)
  try (have f1_8 := hf.farz (b := w.heap.size) (c := 8) (by first | (simp; done) | (simp; omega) | omega) (by omega); simp [go_sem] at f1_8)
  have F1 := rf_step (r := r) (w := w) (by (repeat' (first | refine RF.new ?_ lt (by first | (simp; done) | (simp; omega) | omega) _ | (refine RF.alloc ?_ lt _) | (refine RF.drew ?_ lt) | refine RF.set ?_ _ | exact Hid.out (by assumption) | exact RF.refl _ _))) hf
  clear hf
  go_wp2_with fail
  try simp only [Exit.inBlock, Exit.then]
  refine bodyPost_ret (v := .agg #[.int .i64 2, .string ⟨#[]⟩, .int .i64 0, .int .i64 0, .int .i64 0, .int .i64 0, .bool false, .bool false, .pointer none]) (by simp [results, Tryz.results318, go_sem, e1_0, e1_1, e1_2, e1_3, e1_4, e1_5, e1_6, e1_7, e1_8]) rfl ⟨rfl, by (repeat' (first | refine RF.new ?_ lt (by first | (simp; done) | (simp; omega) | omega) _ | (refine RF.alloc ?_ lt _) | (refine RF.drew ?_ lt) | refine RF.set ?_ _ | exact Hid.out (by assumption) | exact RF.refl _ _)), ⟨(by repeat' (first | refine Rq.setO ?_ (by first | (simp; done) | (simp; omega) | omega) (by first | (simp; done) | (simp; omega) | omega) _ | refine Rq.below ?_ ((Below.refl _ _).alloc (Nat.le_refl _) _) | exact hn.1)), (by repeat' (first | refine Tk.set ?_ _ _ (by first | (simp; done) | (simp; omega) | omega) | refine Tk.below ?_ ((Below.refl _ _).alloc (Nat.le_refl _) _) | exact hn.2))⟩⟩
structure Sl (w : World) (s : Nat) : Prop where
  lt : s < w.heap.size
  c0 : w.cell? ⟨s, 0, none⟩ = some (.int .i64 2)
  c1 : w.cell? ⟨s, 1, none⟩ = some (.string ⟨#[]⟩)
  c2 : w.cell? ⟨s, 2, none⟩ = some (.int .i64 0)
  c3 : w.cell? ⟨s, 3, none⟩ = some (.int .i64 0)
  c4 : w.cell? ⟨s, 4, none⟩ = some (.int .i64 0)
  c5 : w.cell? ⟨s, 5, none⟩ = some (.int .i64 0)
  c6 : w.cell? ⟨s, 6, none⟩ = some (.bool false)
  c7 : w.cell? ⟨s, 7, none⟩ = some (.bool false)
  c8 : w.cell? ⟨s, 8, none⟩ = some (.pointer none)
theorem Sl.of {w w' : World} {s : Nat} (h : Sl w s) (hs : w.heap.size ≤ w'.heap.size) (hc : ∀ c, w'.cell? ⟨s, c, none⟩ = w.cell? ⟨s, c, none⟩) : Sl w' s :=
  ⟨Nat.lt_of_lt_of_le h.lt hs, (hc 0).trans h.c0, (hc 1).trans h.c1, (hc 2).trans h.c2, (hc 3).trans h.c3, (hc 4).trans h.c4, (hc 5).trans h.c5, (hc 6).trans h.c6, (hc 7).trans h.c7, (hc 8).trans h.c8⟩
theorem Sl.below {w w' : World} {s : Nat} (h : Sl w s) (hb : Below w.heap.size w w') : Sl w' s := h.of hb.size fun c => hb.cell (p := ⟨s, c, none⟩) h.lt
theorem Sl.rf {w w' : World} {r s : Nat} (h : Sl w s) (hf : RF r w w') (hne : r ≠ s) : Sl w' s := h.of hf.gr.size fun c => hf.far h.lt hne
theorem Sl.set {w : World} {s : Nat} (h : Sl w s) {a : Addr} (hne : a.block ≠ s) (v : Value) : Sl (w.setCell a v) s := h.of (by simp [World.setCell]) fun c => World.cell?_setCell_other _ _ _ _ (by intro e; exact hne (by rw [e]))
set_option maxRecDepth 100000 in
set_option maxHeartbeats 2000000 in
theorem sels_1 (r g cap : Nat) (w : World) (h : Rd1 w r g cap) : Calls Tryz.prog 271 #[.pointer (some ⟨r, 0, none⟩)] w fun e w' => ∃ s, e = .returned (.slice (some ⟨s, 0, none⟩) 1 1) ∧ RF r w w' ∧ w.heap.size ≤ s ∧ Sl w' s ∧ Rd4 w' r g := by
  have lt := h.1.lt
  have glt := h.1.glt
  go_enter Tryz.func271, Tryz.ntmps271
  go_wp2_with fail
  refine (must_1 r g cap _ ⟨(by repeat' (first | refine Rq.setO ?_ (by first | (simp; done) | (simp; omega) | omega) (by first | (simp; done) | (simp; omega) | omega) _ | refine Rq.below ?_ ((Below.refl _ _).alloc (Nat.le_refl _) _) | exact h.1)), (by repeat' (first | refine Tk.set ?_ _ _ (by first | (simp; done) | (simp; omega) | omega) | refine Tk.below ?_ ((Below.refl _ _).alloc (Nat.le_refl _) _) | exact h.2))⟩).mono ?_; rintro e w1 ⟨rfl, hf, hn⟩
  have lr1 : r < w1.heap.size := hn.1.lt
  have F1 := rf_step (r := r) (w := w) (by (repeat' (first | refine RF.new ?_ lt (by first | (simp; done) | (simp; omega) | omega) _ | (refine RF.alloc ?_ lt _) | (refine RF.drew ?_ lt) | refine RF.set ?_ _ | exact Hid.out (by assumption) | exact RF.refl _ _))) hf
  clear hf
  go_wp2_with fail
  refine (sel_2 r g (cap - 1) _ ⟨(by repeat' (first | refine Rq.setO ?_ (by first | (simp; done) | (simp; omega) | omega) (by first | (simp; done) | (simp; omega) | omega) _ | refine Rq.below ?_ ((Below.refl _ _).alloc (Nat.le_refl _) _) | exact hn.1)), (by repeat' (first | refine Tk.set ?_ _ _ (by first | (simp; done) | (simp; omega) | omega) | refine Tk.below ?_ ((Below.refl _ _).alloc (Nat.le_refl _) _) | exact hn.2))⟩).mono ?_; rintro e w2 ⟨rfl, hf, hn2⟩
  have lr2 : r < w2.heap.size := hn2.1.lt
  have F2 := rf_step (r := r) (w := w) (by (repeat' (first | refine RF.new ?_ lt (by first | (simp; done) | (simp; omega) | omega) _ | (refine RF.alloc ?_ lt _) | (refine RF.drew ?_ lt) | refine RF.set ?_ _ | exact Hid.out (by assumption) | exact RF.refl _ _))) hf
  clear hf
  go_wp2_with (first | (refine wp_loop_unr 2 ?_; refine Unr.step ?_; intro U hU) | (refine Unr.step ?_; intro U hU) | (go_at_call 273; refine (take_no r g _ _ _ _ _ _ _ (by simp only [ByteArray.toList_eq]; decide) _ (Rq.below hn2.1 ((Below.refl _ _).alloc (Nat.le_refl _) _))).mono ?_; rintro e w9 ⟨rfl, rfl⟩))
  refine (must_3 r g (cap - 1 - 1) _ ⟨(by repeat' (first | refine Rq.setO ?_ (by first | (simp; done) | (simp; omega) | omega) (by first | (simp; done) | (simp; omega) | omega) _ | refine Rq.below ?_ ((Below.refl _ _).alloc (Nat.le_refl _) _) | exact hn2.1)), (by repeat' (first | refine Tk.set ?_ _ _ (by first | (simp; done) | (simp; omega) | omega) | refine Tk.below ?_ ((Below.refl _ _).alloc (Nat.le_refl _) _) | exact hn2.2))⟩).mono ?_; rintro e w3 ⟨rfl, hf, hn3⟩
  have lr3 : r < w3.heap.size := hn3.lt
  have F3 := rf_step (r := r) (w := w) (by (repeat' (first | refine RF.new ?_ lt (by first | (simp; done) | (simp; omega) | omega) _ | (refine RF.alloc ?_ lt _) | (refine RF.drew ?_ lt) | refine RF.set ?_ _ | exact Hid.out (by assumption) | exact RF.refl _ _))) hf
  have hS : Sl w3 w2.heap.size := Sl.rf (Sl.mk (by simp) (by simp [go_sem]) (by simp [go_sem]) (by simp [go_sem]) (by simp [go_sem]) (by simp [go_sem]) (by simp [go_sem]) (by simp [go_sem]) (by simp [go_sem]) (by simp [go_sem])) hf (by omega)
  have hsz := F2.out.gr.size
  go_wp2_with fail
  try simp only [Exit.inBlock, Exit.then]
  refine bodyPost_ret (v := .slice (some ⟨w2.heap.size, 0, none⟩) 1 1) (by simp [results, Tryz.results271, go_sem]) rfl ⟨w2.heap.size, by simp, by (repeat' (first | refine RF.new ?_ lt (by first | (simp; done) | (simp; omega) | omega) _ | (refine RF.alloc ?_ lt _) | (refine RF.drew ?_ lt) | refine RF.set ?_ _ | exact Hid.out (by assumption) | exact RF.refl _ _)), hsz, hS, hn3⟩
set_option maxRecDepth 100000 in
set_option maxHeartbeats 2000000 in
theorem seg_1 (r g cap : Nat) (w : World) (h : Rd1 w r g cap) : Calls Tryz.prog 207 #[.pointer (some ⟨r, 0, none⟩)] w fun e w' => ∃ s, e = .returned (.agg #[.bool false, .slice (some ⟨s, 0, none⟩) 1 1]) ∧ RF r w w' ∧ w.heap.size ≤ s ∧ Sl w' s ∧ Rd4 w' r g := by
  have lt := h.1.lt
  have glt := h.1.glt
  go_enter Tryz.func207, Tryz.ntmps207
  go_wp2_with (first | (go_at_call 148; refine (is_s r g _ _ _ _ _ _ _ true (by simp only [ByteArray.toList_eq]; decide) _ (Rq.below h.1 ((Below.refl _ _).alloc (Nat.le_refl _) _))).mono ?_; rintro e w9 ⟨rfl, rfl⟩))
  refine (sels_1 r g cap _ ⟨(by repeat' (first | refine Rq.setO ?_ (by first | (simp; done) | (simp; omega) | omega) (by first | (simp; done) | (simp; omega) | omega) _ | refine Rq.below ?_ ((Below.refl _ _).alloc (Nat.le_refl _) _) | exact h.1)), (by repeat' (first | refine Tk.set ?_ _ _ (by first | (simp; done) | (simp; omega) | omega) | refine Tk.below ?_ ((Below.refl _ _).alloc (Nat.le_refl _) _) | exact h.2))⟩).mono ?_; rintro e w1 ⟨s, rfl, hf, hs, hS, hn⟩
  have s1 := hf.gr.size; try simp at s1
  try (have l1_0 : w.heap.size < w1.heap.size := by omega)
  try (have l1_1 : w.heap.size < w1.heap.size + 1 := by omega)
  try (have l1_2 : w.heap.size < w1.heap.size + 1 + 1 := by omega)
  try (have lr1 : r < w1.heap.size := by omega)
  try (have e1_0 := hf.far (b := w.heap.size) (c := 0) (by first | (simp; done) | (simp; omega) | omega) (by omega); simp [go_sem] at e1_0)
  try (have f1_0 := hf.farz (b := w.heap.size) (c := 0) (by first | (simp; done) | (simp; omega) | omega) (by omega); simp [go_sem] at f1_0)
  try (have e1_1 := hf.far (b := w.heap.size) (c := 1) (by first | (simp; done) | (simp; omega) | omega) (by omega); simp [go_sem] at e1_1)
  try (have f1_1 := hf.farz (b := w.heap.size) (c := 1) (by first | (simp; done) | (simp; omega) | omega) (by omega); simp [go_sem] at f1_1)
  simp at hs
  have lr1 : r < w1.heap.size := hn.lt
  have F1 := rf_step (r := r) (w := w) (by (repeat' (first | refine RF.new ?_ lt (by first | (simp; done) | (simp; omega) | omega) _ | (refine RF.alloc ?_ lt _) | (refine RF.drew ?_ lt) | refine RF.set ?_ _ | exact Hid.out (by assumption) | exact RF.refl _ _))) hf
  clear hf
  go_wp2_with fail
  try simp only [Exit.inBlock, Exit.then]
  refine bodyPost_ret (v := .agg #[.bool false, .slice (some ⟨s, 0, none⟩) 1 1]) (by simp [results, Tryz.results207, go_sem, e1_0, e1_1]) rfl ⟨s, by simp, by (repeat' (first | refine RF.new ?_ lt (by first | (simp; done) | (simp; omega) | omega) _ | (refine RF.alloc ?_ lt _) | (refine RF.drew ?_ lt) | refine RF.set ?_ _ | exact Hid.out (by assumption) | exact RF.refl _ _)), by omega, by repeat' (first | refine Sl.set ?_ (by first | (simp; done) | (simp; omega) | omega) _ | exact hS), (by repeat' (first | refine Rd4.setO ?_ (by first | (simp; done) | (simp; omega) | omega) _ | refine Rd4.below ?_ ((Below.refl _ _).alloc (Nat.le_refl _) _) | exact hn))⟩
end Go.Proofs.YtjelneeeijjpiaaGreatDoor
end
