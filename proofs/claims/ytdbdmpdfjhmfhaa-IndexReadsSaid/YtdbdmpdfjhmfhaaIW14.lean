/- The walk of the reference's Read: short bytes, and a sum that does not fit. -/
import Derived.Test.YtdbdmpdfjhmfhaaIW11
import Derived.Test.YtdbdmpdfjhmfhaaIW12
import Derived.Test.YtdbdmpdfjhmfhaaIPlain8
import Derived.Deep.RegionHeld3
namespace Go.Proofs.Ytdbdmpdfjhmfhaa
open Go.RowKit Go.Proofs.Lx

/-- what stands in Read ahead of its table: two blocks of the zero table -/
def NB (w w' : World) : Prop := BK w' w.heap.size Zt 24 ∧ BK w' (w.heap.size + 1) Zt 24 ∧ Below w.heap.size w w'
theorem BK.below {w w' : World} {q t : Nat} {C : Array Value} (h : BK w q C t) (hb : Below w.heap.size w w') : BK w' q C t := by
  have := BK.lt h
  unfold BK at *; rw [hb.block q this]; exact h
theorem NB.next {w w1 w2 : World} (h : NB w w1) (hb : Below w1.heap.size w1 w2) : NB w w2 := ⟨h.1.below hb, h.2.1.below hb, h.2.2.trans (hb.mono h.2.2.size)⟩
theorem NB.start (w : World) : NB w ((w.alloc (.cells Zt 24)).alloc (.cells Zt 24)) := by
  refine ⟨(BK.new w Zt 24).alloc _, ?_, (below1 w _).alloc (by simp) _⟩
  have := BK.new (w.alloc (.cells Zt 24)) Zt 24
  simpa using this
theorem zt_cells {w' : World} {g : Nat} (h : BK w' g Zt 24) : w'.cell? ⟨g, 0, none⟩ = some (.int .i64 0) ∧ w'.cell? ⟨g, 1, none⟩ = some (.int .i64 0) ∧ w'.cell? ⟨g, 2, none⟩ = some (.slice none 0 0) := by
  refine ⟨?_, ?_, ?_⟩
  all_goals rw [h.cell]; rfl
theorem zt_free {w' : World} {g : Nat} (h : BK w' g Zt 24) : w'.frozen? ⟨g, 0, none⟩ = false ∧ w'.frozen? ⟨g, 1, none⟩ = false ∧ w'.frozen? ⟨g, 2, none⟩ = false := ⟨h.free 0, h.free 1, h.free 2⟩
theorem NB.cells {w w' : World} (h : NB w w') : (w'.cell? ⟨w.heap.size, 0, none⟩ = some (.int .i64 0) ∧ w'.cell? ⟨w.heap.size, 1, none⟩ = some (.int .i64 0) ∧ w'.cell? ⟨w.heap.size, 2, none⟩ = some (.slice none 0 0)) ∧
    (w'.cell? ⟨w.heap.size + 1, 0, none⟩ = some (.int .i64 0) ∧ w'.cell? ⟨w.heap.size + 1, 1, none⟩ = some (.int .i64 0) ∧ w'.cell? ⟨w.heap.size + 1, 2, none⟩ = some (.slice none 0 0)) ∧
    (w'.frozen? ⟨w.heap.size, 0, none⟩ = false ∧ w'.frozen? ⟨w.heap.size, 1, none⟩ = false ∧ w'.frozen? ⟨w.heap.size, 2, none⟩ = false) ∧
    (w'.frozen? ⟨w.heap.size + 1, 0, none⟩ = false ∧ w'.frozen? ⟨w.heap.size + 1, 1, none⟩ = false ∧ w'.frozen? ⟨w.heap.size + 1, 2, none⟩ = false) :=
  ⟨zt_cells h.1, zt_cells h.2.1, zt_free h.1, zt_free h.2.1⟩
theorem fin3 {w w' : World} (h : Below w.heap.size w w') (u0 u1 u2 : Value) : Below w.heap.size w (((w'.setCell ⟨w.heap.size, 0, none⟩ u0).setCell ⟨w.heap.size, 1, none⟩ u1).setCell ⟨w.heap.size, 2, none⟩ u2) :=
  ((h.setCell (Nat.le_refl _) _).setCell (Nat.le_refl _) _).setCell (Nat.le_refl _) _
theorem rread_short (s : ByteArray) (w : World) (hs : s.size < 40) :
    Calls Try.prog 14 #[.string s] w fun e w' => e = .returned (.tuple #[.agg Zt, .int .i64 3]) ∧ Below w.heap.size w w' := by
  go_enter Try.func14, Try.ntmps14
  go_wp2_with fail
  exact bodyPost_ret (v := .tuple #[.agg Zt, .int .i64 3]) (by simp [results, Try.results14, go_sem]) rfl ⟨rfl, (below1 w _).alloc (by simp) _⟩

theorem eight_of (n : Nat) (E : ByteArray) (w : World) (h : Hid (mk (eight n) = E)) :
    Calls Try.prog 11 #[.int .u64 (n : Nat)] w fun e w' => e = .returned (.string E) ∧ Below w.heap.size w w' := by
  rw [← h.out]; exact eight_any n w
theorem rsum_to (s : ByteArray) (n : Nat) (w : World) (hs : s.size ≤ maxLen) (h : Hid (sumL s.data.toList = n)) :
    Calls Try.prog 12 #[.string s] w fun e w' => e = .returned (.int .u64 (n : Nat)) ∧ w = w' := by
  rw [← h.out]; exact rsum_any s w hs

set_option maxRecDepth 100000 in
set_option maxHeartbeats 1000000 in
theorem rread_sum (s : ByteArray) (n : Nat) (w : World) (hn : (s.size : Int) = n + 8) (hs : ¬ s.size < 40) (hs2 : s.size ≤ 10000) (sv : Nat) (hv : Hid (sumL (s.extract 0 n).data.toList = sv)) (E : ByteArray) (hE : Hid (mk (eight sv) = E)) (hne : (E.toList == (s.extract n s.size).toList) = false) :
    Calls Try.prog 14 #[.string s] w fun e w' => e = .returned (.tuple #[.agg Zt, .int .i64 11]) ∧ Below w.heap.size w w' := by
  have k0 : (s.size : Int) - 8 = (n : Int) := by omega
  have k1 : (0 : Int) ≤ (n : Int) := by omega
  have k2 : (n : Int) ≤ (s.size : Int) := by omega
  clear hn
  go_enter Try.func14, Try.ntmps14
  go_wp2_with fail
  have HN := Lib.hid (NB.start w)
  have HNd := Lib.hid (HN.out.next ((Below.refl _ _).drew))
  go_region_held3 (fun w' => Hid (NB w w')) (first | assumption | exact HNd)
    (first | (go_at_call 12; refine (rsum_to _ sv _ (by simp; unfold maxLen; omega) hv).mono ?_; rintro e w5 ⟨rfl, rfl⟩)
           | (go_at_call 11; refine (eight_of sv E _ hE).mono ?_; rintro e w5 ⟨rfl, hb⟩; have HX := Lib.hid (NB.next (Hid.out (by assumption)) hb); clear hb))
  obtain ⟨⟨c0, c1, c2⟩, ⟨d0, d1, d2⟩, ⟨f0, f1, f2⟩, ⟨g0, g1, g2⟩⟩ := HX.out.cells
  go_wp2_with fail
  exact bodyPost_ret (v := .tuple #[.agg Zt, .int .i64 11]) (by simp [results, Try.results14, go_sem, c0, c1, c2]) rfl ⟨rfl, fin3 HX.out.2.2 _ _ _⟩
end Go.Proofs.Ytdbdmpdfjhmfhaa
