/- The walk of entry. -/
import Derived.Test.YtdbdmpdfjhmfhaaIW7
namespace Go.Proofs.Ytdbdmpdfjhmfhaa
open Go.RowKit Go.Proofs.Lx

theorem grown_alloc {a b : World} {g : Option Nat} (h : a.grownBy b g) (o : Obj) : a.grownBy (b.alloc o) g :=
  ⟨h.os, h.tape, h.output, by have := h.size; simp; omega, fun k hk hg => by
    rw [Below.heap_alloc b o k (Nat.lt_of_lt_of_le hk h.size)]; exact h.block k hk hg⟩
theorem grown_set {a b : World} {g : Option Nat} (h : a.grownBy b g) (q o : Nat) (v : Value) (hq : a.heap.size ≤ q) : a.grownBy (b.setCell ⟨q, o, none⟩ v) g :=
  ⟨h.os, h.tape, h.output, by have := h.size; simp [World.setCell]; omega, fun k hk hg => by
    rw [Below.heap_setCell b ⟨q, o, none⟩ v k (by simp; omega)]; exact h.block k hk hg⟩
/-- a block of cells -/
def BK (w : World) (q : Nat) (C : Array Value) (t : TypeId) : Prop := w.heap[q]? = some (.cells C t (0, 0))
theorem BK.cell {w : World} {q t : Nat} {C : Array Value} (h : BK w q C t) (i : Nat) : w.cell? ⟨q, i, none⟩ = C[i]? := by
  unfold BK at h; simp [World.cell?, h]
theorem BK.free {w : World} {q t : Nat} {C : Array Value} (h : BK w q C t) (i : Nat) : w.frozen? ⟨q, i, none⟩ = false := by
  unfold BK at h; simp [World.frozen?, h]
theorem BK.lt {w : World} {q t : Nat} {C : Array Value} (h : BK w q C t) : q < w.heap.size := by
  unfold BK at h
  rcases Nat.lt_or_ge q w.heap.size with h' | h'
  · exact h'
  · simp [Array.getElem?_eq_none h'] at h
theorem BK.grown {w w' : World} {q t : Nat} {C : Array Value} {g : Nat} (h : BK w q C t) (hg : w.grownBy w' (some g)) (hq : q ≠ g) : BK w' q C t := by
  unfold BK at *
  rw [hg.block q (BK.lt h) (by simpa using hq)]; exact h
theorem BK.other {w : World} {q t : Nat} {C : Array Value} (h : BK w q C t) (p o : Nat) (v : Value) (hq : q ≠ p) : BK (w.setCell ⟨p, o, none⟩ v) q C t := by
  unfold BK at *
  rw [Below.heap_setCell w ⟨p, o, none⟩ v q hq]; exact h
theorem BK.alloc {w : World} {q t : Nat} {C : Array Value} (h : BK w q C t) (o : Obj) : BK (w.alloc o) q C t := by
  have := BK.lt h
  unfold BK at *
  rw [Below.heap_alloc w o q this]; exact h
theorem BK.new (w : World) (C : Array Value) (t : TypeId) : BK (w.alloc (.cells C t)) w.heap.size C t := heap_alloc_new w _
theorem BK.set {w : World} {q t : Nat} {C : Array Value} (h : BK w q C t) (o : Nat) (v : Value) : BK (w.setCell ⟨q, o, none⟩ v) q (C.setIfInBounds o v) t := by
  unfold BK at *; simp [World.setCell, Array.getElem?_modify, h]
theorem RD.other {w : World} {g : Nat} {s : ByteArray} {bad : Bool} (h : RD w g s bad) (p o : Nat) (v : Value) (hq : g ≠ p) : RD (w.setCell ⟨p, o, none⟩ v) g s bad := BK.other (t := 57) h p o v hq
theorem RD.alloc {w : World} {g : Nat} {s : ByteArray} {bad : Bool} (h : RD w g s bad) (o : Obj) : RD (w.alloc o) g s bad := BK.alloc (t := 57) h o
theorem RD.lt {w : World} {g : Nat} {s : ByteArray} {bad : Bool} (h : RD w g s bad) : g < w.heap.size := BK.lt (t := 57) h

theorem num_to (g most : Nat) (M : Int) (s : ByteArray) (bad : Bool) (w : World) (hR : Hid (RD w g s bad)) (hm : most ≤ 2000000) (hs : s.size ≤ 10000) (N : Nat) (s' : ByteArray) (bad' : Bool) (hT : Hid (numP most s bad = (N, s', bad'))) (hM : (most : Int) = M) :
    Calls Try.prog 25 #[.pointer (some ⟨g, 0, none⟩), .int .i64 M] w fun e w' => e = .returned (.int .i64 (N : Nat)) ∧ RD w' g s' bad' ∧ w.grownBy w' (some g) := by
  subst hM; exact num_any g most s bad w hR hm hs N s' bad' hT
theorem take_to (g n : Nat) (M : Int) (s : ByteArray) (bad : Bool) (w : World) (hR : Hid (RD w g s bad)) (hn : n ≤ 2000000) (hs : s.size ≤ 10000) (T : ByteArray) (s' : ByteArray) (bad' : Bool) (hT : Hid (takeP n s bad = (T, s', bad'))) (hM : (n : Int) = M) :
    Calls Try.prog 24 #[.pointer (some ⟨g, 0, none⟩), .int .i64 M] w fun e w' => e = .returned (.string T) ∧ RD w' g s' bad' ∧ w.grownBy w' (some g) := by
  subst hM; exact take_any g n s bad w hR hn hs T s' bad' hT

abbrev Z5 : Array Value := #[.int .i64 0, .int .i64 0, .int .i64 0, .int .i64 0, .string ⟨#[]⟩]
/-- what stands through entry's body -/
def EI (w wi : World) (g : Nat) (C : Array Value) (s : ByteArray) (bad : Bool) : Prop :=
  RD wi g s bad ∧ BK wi (w.heap.size + 1) C 30 ∧ BK wi w.heap.size Z5 30 ∧ w.grownBy wi (some g)
theorem EI.call {w wi w' : World} {g : Nat} {C : Array Value} {s s' : ByteArray} {bad bad' : Bool} (h : EI w wi g C s bad) (hg : g < w.heap.size) (h1 : RD w' g s' bad') (h2 : wi.grownBy w' (some g)) : EI w w' g C s' bad' :=
  ⟨h1, h.2.1.grown h2 (by omega), h.2.2.1.grown h2 (by omega), grown_trans h.2.2.2 h2⟩
theorem EI.set {w wi : World} {g : Nat} {C : Array Value} {s : ByteArray} {bad : Bool} (h : EI w wi g C s bad) (hg : g < w.heap.size) (o : Nat) (v : Value) : EI w (wi.setCell ⟨w.heap.size + 1, o, none⟩ v) g (C.setIfInBounds o v) s bad :=
  ⟨h.1.other _ _ _ (by omega), h.2.1.set o v, h.2.2.1.other _ _ _ (by omega), grown_set h.2.2.2 _ _ _ (by omega)⟩
theorem EI.start {w : World} {g : Nat} {s : ByteArray} {bad : Bool} (h : RD w g s bad) : EI w ((w.alloc (.cells Z5 30)).alloc (.cells Z5 30)) g Z5 s bad := by
  refine ⟨(h.alloc _).alloc _, ?_, (BK.new w Z5 30).alloc _, grown_alloc (grown_alloc (grown_refl w _) _) _⟩
  have := BK.new (w.alloc (.cells Z5 30)) Z5 30
  simpa using this

set_option maxRecDepth 100000 in
set_option maxHeartbeats 2000000 in
theorem ent_any (g : Nat) (s : ByteArray) (bad : Bool) (w : World) (hR : Hid (RD w g s bad)) (hs : s.size ≤ 10000)
    (a : Nat) (s1 : ByteArray) (b1 : Bool) (h1 : Hid (numP 1048576 s bad = (a, s1, b1)))
    (b : Nat) (s2 : ByteArray) (b2 : Bool) (h2 : Hid (numP 1048576 s1 b1 = (b, s2, b2)))
    (c : ByteArray) (s3 : ByteArray) (b3 : Bool) (h3 : Hid (takeP 1 s2 b2 = (c, s3, b3)))
    (d : Nat) (s4 : ByteArray) (b4 : Bool) (h4 : Hid (numP 65536 s3 b3 = (d, s4, b4)))
    (e : Nat) (s5 : ByteArray) (b5 : Bool) (h5 : Hid (numP 1048576 s4 b4 = (e, s5, b5)))
    (f : ByteArray) (s6 : ByteArray) (b6 : Bool) (h6 : Hid (takeP e s5 b5 = (f, s6, b6))) :
    Calls Try.prog 26 #[.pointer (some ⟨g, 0, none⟩)] w fun x w' => x = .returned (.agg #[.int .i64 (a : Nat), .int .i64 (b : Nat), .int .i64 (wideTo c.data.toList : Nat), .int .i64 (d : Nat), .string f]) ∧ RD w' g s6 b6 ∧ w.grownBy w' (some g) := by
  have z1 : s1.size ≤ s.size := by have := (numP_size 1048576 s bad).2; rw [h1.out] at this; exact this
  have z2 : s2.size ≤ s1.size := by have := (numP_size 1048576 s1 b1).2; rw [h2.out] at this; exact this
  have z3 : s3.size ≤ s2.size := by have := (takeP_size 1 s2 b2).2.2; rw [h3.out] at this; exact this
  have z4 : s4.size ≤ s3.size := by have := (numP_size 65536 s3 b3).2; rw [h4.out] at this; exact this
  have z5 : s5.size ≤ s4.size := by have := (numP_size 1048576 s4 b4).2; rw [h5.out] at this; exact this
  have y5 : e ≤ 1048576 := by have := (numP_size 1048576 s4 b4).1; rw [h5.out] at this; exact this
  have y3 : c.size ≤ 1 := by have := (takeP_size 1 s2 b2).1; rw [h3.out] at this; exact this
  have hgl := hR.out.lt
  go_enter Try.func26, Try.ntmps26
  have hI0 := Lib.hid (EI.start hR.out)
  go_wp2_with fail
  refine (num_to g 1048576 _ s bad _ (Lib.hid hI0.out.1) (by omega) hs a s1 b1 h1 (by rfl)).mono ?_; rintro x w1 ⟨rfl, q1, q2⟩
  have hI1 := Lib.hid (hI0.out.call hgl q1 q2)
  clear q1 q2 hI0 h1
  go_wp2_with fail
  refine (num_to g 1048576 _ s1 b1 _ (Lib.hid hI1.out.1) (by omega) (by omega) b s2 b2 h2 (by rfl)).mono ?_; rintro x w2 ⟨rfl, q1, q2⟩
  have hI2 := Lib.hid (hI1.out.call hgl q1 q2)
  clear q1 q2 hI1 h2
  have e0 : w2.cell? ⟨w.heap.size + 1, 0, none⟩ = some (.int .i64 0) := by rw [hI2.out.2.1.cell]; rfl
  have e1 : w2.cell? ⟨w.heap.size + 1, 1, none⟩ = some (.int .i64 0) := by rw [hI2.out.2.1.cell]; rfl
  have f0 := hI2.out.2.1.free 0
  have f1 := hI2.out.2.1.free 1
  have hI3 := Lib.hid ((hI2.out.set hgl 0 (.int .i64 (a : Nat))).set hgl 1 (.int .i64 (b : Nat)))
  go_wp2_with fail
  refine (take_to g 1 _ s2 b2 _ (Lib.hid hI3.out.1) (by omega) (by omega) c s3 b3 h3 (by rfl)).mono ?_; rintro x w3 ⟨rfl, q1, q2⟩
  have hI4 := Lib.hid (hI3.out.call hgl q1 q2)
  clear q1 q2 hI3 hI2 h3 e0 e1 f0 f1
  go_wp2_with fail
  refine (wide_any _ _ (by omega)).mono ?_; rintro x w' ⟨rfl, rfl⟩
  have e2 : w3.cell? ⟨w.heap.size + 1, 2, none⟩ = some (.int .i64 0) := by rw [hI4.out.2.1.cell]; rfl
  have f2 := hI4.out.2.1.free 2
  have hI5 := Lib.hid (hI4.out.set hgl 2 (.int .i64 (wideTo c.data.toList : Nat)))
  have hc256 : wideTo c.data.toList < 256 := by
    have q := wideTo_lt c.data.toList
    have hl : c.data.toList.length ≤ 1 := by simpa using y3
    have : 256 ^ c.data.toList.length ≤ 256 ^ 1 := Nat.pow_le_pow_right (by omega) hl
    omega
  go_wp2_with fail
  refine (num_to g 65536 _ s3 b3 _ (Lib.hid hI5.out.1) (by omega) (by omega) d s4 b4 h4 (by rfl)).mono ?_; rintro x w4 ⟨rfl, q1, q2⟩
  have hI6 := Lib.hid (hI5.out.call hgl q1 q2)
  clear q1 q2 hI5 hI4 h4 e2 f2
  have e3 : w4.cell? ⟨w.heap.size + 1, 3, none⟩ = some (.int .i64 0) := by rw [hI6.out.2.1.cell]; rfl
  have f3 := hI6.out.2.1.free 3
  have hI7 := Lib.hid (hI6.out.set hgl 3 (.int .i64 (d : Nat)))
  go_wp2_with fail
  refine (num_to g 1048576 _ s4 b4 _ (Lib.hid hI7.out.1) (by omega) (by omega) e s5 b5 h5 (by rfl)).mono ?_; rintro x w5 ⟨rfl, q1, q2⟩
  have hI8 := Lib.hid (hI7.out.call hgl q1 q2)
  clear q1 q2 hI7 hI6 h5 e3 f3
  go_wp2_with fail
  refine (take_to g e _ s5 b5 _ (Lib.hid hI8.out.1) (by omega) (by omega) f s6 b6 h6 (by rfl)).mono ?_; rintro x w6 ⟨rfl, q1, q2⟩
  have hI9 := Lib.hid (hI8.out.call hgl q1 q2)
  clear q1 q2 hI8 h6
  have e4 : w6.cell? ⟨w.heap.size + 1, 4, none⟩ = some (.string ⟨#[]⟩) := by rw [hI9.out.2.1.cell]; rfl
  have e0 : w6.cell? ⟨w.heap.size + 1, 0, none⟩ = some (.int .i64 (a : Nat)) := by rw [hI9.out.2.1.cell]; rfl
  have e1 : w6.cell? ⟨w.heap.size + 1, 1, none⟩ = some (.int .i64 (b : Nat)) := by rw [hI9.out.2.1.cell]; rfl
  have e2 : w6.cell? ⟨w.heap.size + 1, 2, none⟩ = some (.int .i64 (wideTo c.data.toList : Nat)) := by rw [hI9.out.2.1.cell]; rfl
  have e3 : w6.cell? ⟨w.heap.size + 1, 3, none⟩ = some (.int .i64 (d : Nat)) := by rw [hI9.out.2.1.cell]; rfl
  have f4 := hI9.out.2.1.free 4
  have r0 : w6.cell? ⟨w.heap.size, 0, none⟩ = some (.int .i64 0) := by rw [hI9.out.2.2.1.cell]; rfl
  have r1 : w6.cell? ⟨w.heap.size, 1, none⟩ = some (.int .i64 0) := by rw [hI9.out.2.2.1.cell]; rfl
  have r2 : w6.cell? ⟨w.heap.size, 2, none⟩ = some (.int .i64 0) := by rw [hI9.out.2.2.1.cell]; rfl
  have r3 : w6.cell? ⟨w.heap.size, 3, none⟩ = some (.int .i64 0) := by rw [hI9.out.2.2.1.cell]; rfl
  have r4 : w6.cell? ⟨w.heap.size, 4, none⟩ = some (.string ⟨#[]⟩) := by rw [hI9.out.2.2.1.cell]; rfl
  have t0 := hI9.out.2.2.1.free 0
  have t1 := hI9.out.2.2.1.free 1
  have t2 := hI9.out.2.2.1.free 2
  have t3 := hI9.out.2.2.1.free 3
  have t4 := hI9.out.2.2.1.free 4
  go_wp2_with fail
  refine bodyPost_ret (v := .agg #[.int .i64 (a : Nat), .int .i64 (b : Nat), .int .i64 (wideTo c.data.toList : Nat), .int .i64 (d : Nat), .string f]) ?_ rfl ⟨rfl, ?_, ?_⟩
  · simp [results, Try.results26, go_sem, r0, r1, r2, r3, r4]
  · exact (((((hI9.out.1.other _ _ _ (by omega)).other _ _ _ (by omega)).other _ _ _ (by omega)).other _ _ _ (by omega)).other _ _ _ (by omega)).other _ _ _ (by omega)
  · exact grown_set (grown_set (grown_set (grown_set (grown_set (grown_set hI9.out.2.2.2 _ _ _ (by omega)) _ _ _ (Nat.le_refl _)) _ _ _ (Nat.le_refl _)) _ _ _ (Nat.le_refl _)) _ _ _ (Nat.le_refl _)) _ _ _ (Nat.le_refl _)
end Go.Proofs.Ytdbdmpdfjhmfhaa
