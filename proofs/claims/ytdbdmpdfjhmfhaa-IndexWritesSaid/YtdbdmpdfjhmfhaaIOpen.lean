/- An argument that is a table, opened to its cells. -/
import Derived.Test.YtdbdmpdfjhmfhaaIW1
import Derived.ProofKit
import Derived.Deep.Slices
import Derived.Deep.Fields
import Derived.Lib.SmallJoins
namespace Go.Proofs.Ytdbdmpdfjhmfhaa
open Go.RowKit Go.Proofs.Lx Go.ChangeShapes Go.WideShapes Go.Joins Go.Deep

theorem cells24 : Try.prog.cellsOf 24 = 3 := by kernel_rfl
theorem cells30 : Try.prog.cellsOf 30 = 5 := by kernel_rfl
theorem cells28 : Try.prog.cellsOf 28 = 2 := by kernel_rfl
theorem cells3 : Try.prog.cellsOf 3 = 1 := by kernel_rfl
theorem cells9 : Try.prog.cellsOf 9 = 1 := by kernel_rfl

section
variable {H : Type} {enc : TypeId × Value → H} {w : World} {base : Nat} {spare : Nat → Bool} {held : Bool}
theorem fields4 {P : Program} {t n : Nat} {f0 f1 f2 f3 : Field} {cs : List Value} {y : DataW H × List MemPlace} (hs : P.underlying t = some (.struct #[f0, f1, f2, f3])) (h : DataW.trod enc P w base spare held n t cs = some y) :
    ∃ (y0 y1 y2 y3 : DataW H × List MemPlace) (m : Nat), DataW.trod enc P w base spare held m f0.type ((cs.drop f0.offset).take (P.cellsOf f0.type)) = some y0 ∧ DataW.trod enc P w base spare held m f1.type ((cs.drop f1.offset).take (P.cellsOf f1.type)) = some y1 ∧
      DataW.trod enc P w base spare held m f2.type ((cs.drop f2.offset).take (P.cellsOf f2.type)) = some y2 ∧ DataW.trod enc P w base spare held m f3.type ((cs.drop f3.offset).take (P.cellsOf f3.type)) = some y3 := by
  obtain ⟨xs, m, _, _, _, hxl, hf⟩ := DataW.trod_struct hs h
  match xs, hxl with
  | [y0, y1, y2, y3], _ => exact ⟨y0, y1, y2, y3, m, hf 0 f0 rfl, hf 1 f1 rfl, hf 2 f2 rfl, hf 3 f3 rfl⟩
theorem fields2 {P : Program} {t n : Nat} {f0 f1 : Field} {cs : List Value} {y : DataW H × List MemPlace} (hs : P.underlying t = some (.struct #[f0, f1])) (h : DataW.trod enc P w base spare held n t cs = some y) :
    ∃ (y0 y1 : DataW H × List MemPlace) (m : Nat), DataW.trod enc P w base spare held m f0.type ((cs.drop f0.offset).take (P.cellsOf f0.type)) = some y0 ∧ DataW.trod enc P w base spare held m f1.type ((cs.drop f1.offset).take (P.cellsOf f1.type)) = some y1 := by
  obtain ⟨xs, m, _, _, _, hxl, hf⟩ := DataW.trod_struct hs h
  match xs, hxl with
  | [y0, y1], _ => exact ⟨y0, y1, m, hf 0 f0 rfl, hf 1 f1 rfl⟩
theorem ent_of {b o n : Nat} {cs : List Value} {y : DataW H × List MemPlace} (hc : w.cells? base ⟨b, o, none⟩ 5 = some cs) (ht : DataW.trod enc Try.prog w base spare held n 30 cs = some y) : ∃ x, EntAt w b o x := by
  obtain ⟨_, hcl, hat⟩ := World.cells?_some hc
  match cs, hcl with
  | [c0, c1, c2, c3, c4], _ =>
    obtain ⟨y0, y1, y2, y3, n1, g0, g1, g2, g3⟩ := fields4 Try.underlying30 ht
    rw [cells28] at g0
    rw [cells3] at g1 g2
    rw [cells9] at g3
    obtain ⟨z0, z1, n2, k0, k1⟩ := fields2 Try.underlying28 g0
    rw [cells3] at k0 k1
    obtain ⟨fr, e0, _, _⟩ := DataW.trod_int Try.underlying3 k0
    obtain ⟨tt, e1, _, _⟩ := DataW.trod_int Try.underlying3 k1
    obtain ⟨vv, e2, _, _⟩ := DataW.trod_int Try.underlying3 g1
    obtain ⟨aa, e3, _, _⟩ := DataW.trod_int Try.underlying3 g2
    obtain ⟨bb, e4, _, _⟩ := DataW.trod_string Try.underlying9 g3
    simp at e0 e1 e2 e3 e4
    subst e0 e1 e2 e3 e4
    have a0 := hat 0 (by omega)
    have a1 := hat 1 (by omega)
    have a2 := hat 2 (by omega)
    have a3 := hat 3 (by omega)
    have a4 := hat 4 (by omega)
    simp only [Addr.add_lit, Nat.add_zero, List.getElem?_cons_zero, List.getElem?_cons_succ] at a0 a1 a2 a3 a4
    exact ⟨⟨fr, tt, vv, aa, bb⟩, a0, a1, a2, a3, a4⟩
theorem list_of {len : Nat} {p : Nat → En → Prop} (h : ∀ i, i < len → ∃ x, p i x) : ∃ L : List En, L.length = len ∧ ∀ i x, L[i]? = some x → p i x := by
  induction len with
  | zero => exact ⟨[], rfl, fun i x h => by simp at h⟩
  | succ n ih =>
    obtain ⟨L, hL, hp⟩ := ih (fun i hi => h i (by omega))
    obtain ⟨x, hx⟩ := h n (by omega)
    refine ⟨L ++ [x], by simp [hL], fun i y hy => ?_⟩
    by_cases hi : i < n
    · rw [List.getElem?_append_left (by omega)] at hy; exact hp i y hy
    · have hlt : i < (L ++ [x]).length := (List.getElem?_eq_some_iff.1 hy).1
      simp [hL] at hlt
      obtain rfl : i = n := by omega
      rw [List.getElem?_append_right (by omega), hL] at hy
      simp at hy; subst hy; exact hx
theorem open_table {r : Reach} {b0 : Nat} {v : Value} {d : DataW H} {p : List MemPlace} (hv : Value.okWide Try.prog w r b0 24 v) (h : DataW.Trod enc Try.prog w base spare held 24 v d p) :
    ∃ (deep size : Int) (a : Option Addr) (len cap : Nat) (L : List En), v = .agg #[.int .i64 deep, .int .i64 size, .slice a len cap] ∧ Ents w a len L := by
  obtain ⟨v0, v1, v2, y0, y1, y2, n, rfl, rfl, rfl, h0, h1, h2⟩ := open_agg3 Try.underlying24 (by kernel_rfl) cells24 hv h
  obtain ⟨deep, e0, _, _⟩ := DataW.trod_int Try.underlying3 h0
  obtain ⟨size, e1, _, _⟩ := DataW.trod_int Try.underlying3 h1
  simp only [List.cons.injEq, and_true] at e0 e1
  subst e0 e1
  rcases open_slice Try.underlying22 h2 with ⟨hcs, _⟩ | ⟨A, len, cap, m, n', D, Pl, hcs, _, hl, hm, hmm, _, hi⟩
  · simp only [List.cons.injEq, and_true] at hcs
    subst hcs
    exact ⟨deep, size, none, 0, 0, [], rfl, rfl, by omega, fun h => absurd h (Nat.lt_irrefl 0)⟩
  · simp only [List.cons.injEq, and_true] at hcs
    subst hcs
    have hm63 : len ≤ 9223372036854775807 := by unfold maxLen at hm; omega
    have hlm : len ≤ m := by rw [hmm]; split <;> omega
    by_cases h00 : len = 0
    · subst h00
      exact ⟨deep, size, some A, 0, cap, [], rfl, rfl, by omega, fun h => absurd h (Nat.lt_irrefl 0)⟩
    · obtain ⟨cs0, hc0, _⟩ := hi 0 (by omega)
      rw [cells30] at hc0
      obtain ⟨_, hl0, ha0⟩ := World.cells?_some hc0
      have hcell := ha0 0 (by omega)
      obtain ⟨b, off, spot⟩ := A
      have hsome : ∃ u, cs0[0]? = some u := ⟨_, List.getElem?_eq_getElem (by omega)⟩
      obtain ⟨u, hu⟩ := hsome
      rw [hu] at hcell
      have hspot : spot = none := by simpa [Addr.add] using World.cell?_spot hcell
      subst hspot
      have hb : b < w.heap.size := by
        have := World.block_lt_of_cell? _ _ hcell
        simpa [Addr.add] using this
      obtain ⟨L, hL, hp⟩ := list_of (len := len) (p := fun i x => EntAt w b (off + i * 5) x) (fun i hil => by
        obtain ⟨cs', hc, ht⟩ := hi i (by omega)
        rw [cells30, Addr.add_lit] at hc
        exact ent_of hc ht)
      exact ⟨deep, size, some ⟨b, off, none⟩, len, cap, L, rfl, hL, hm63, fun _ => ⟨b, off, rfl, hb, hp⟩⟩
end
end Go.Proofs.Ytdbdmpdfjhmfhaa
