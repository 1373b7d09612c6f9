/- Words for the walks of Formed. -/
import Derived.Test.YtdbdmpdfjhmfhaaIW1
namespace Go.Proofs.Ytdbdmpdfjhmfhaa
open Go.RowKit Go.Proofs.Lx

/-- the box of a table, laid at w, as it stands in wr -/
def TB (w wr : World) (deep size : Int) (a : Option Addr) (len cap : Nat) (L : List En) : Prop :=
  wr.cell? ⟨w.heap.size, 0, none⟩ = some (.int .i64 deep) ∧ wr.cell? ⟨w.heap.size, 1, none⟩ = some (.int .i64 size) ∧ wr.cell? ⟨w.heap.size, 2, none⟩ = some (.slice a len cap) ∧
  w.heap.size < wr.heap.size ∧ Ents wr a len L ∧ Below w.heap.size w wr
theorem TB.start {w : World} {deep size : Int} {a : Option Addr} {len cap : Nat} {L : List En} (h : Ents w a len L) : TB w (w.alloc (.cells #[.int .i64 deep, .int .i64 size, .slice a len cap] 24)) deep size a len cap L := by
  refine ⟨?_, ?_, ?_, by simp, h.below (below1 _ _), below1 _ _⟩
  all_goals rw [World.cell?_alloc_at _ _ _ _ rfl]; rfl
theorem TB.next {w wr w' : World} {deep size : Int} {a : Option Addr} {len cap : Nat} {L : List En} (h : TB w wr deep size a len cap L) (hb : Below wr.heap.size wr w') : TB w w' deep size a len cap L := by
  obtain ⟨h1, h2, h3, h4, h5, h6⟩ := h
  have k : ∀ o, w'.cell? ⟨w.heap.size, o, none⟩ = wr.cell? ⟨w.heap.size, o, none⟩ := fun o => hb.cell (p := ⟨w.heap.size, o, none⟩) h4
  exact ⟨by rw [k]; exact h1, by rw [k]; exact h2, by rw [k]; exact h3, Nat.lt_of_lt_of_le h4 hb.size, h5.below hb, h6.trans (hb.mono (Nat.le_of_lt h4))⟩

def prevTo (L : List En) (k : Nat) : Int := if k = 0 then 0 else ((L[k - 1]?).map En.to).getD 0
theorem prevTo_succ (L : List En) (k : Nat) (x : En) (h : L[k]? = some x) : prevTo L (k + 1) = x.to := by simp [prevTo, h]
theorem go_cons (f size : Int) (L : List En) (k : Nat) (x : En) (h : L[k]? = some x) : FormedGo f size (L.drop k) ↔ ¬ EnBad f size x ∧ FormedGo x.to size (L.drop (k + 1)) := by
  have hk : k < L.length := (List.getElem?_eq_some_iff.1 h).1
  have e : L[k] = x := (List.getElem?_eq_some_iff.1 h).2
  rw [List.drop_eq_getElem_cons hk, e]; rfl

theorem close_bad {R : Bool} {size f : Int} {L : List En} {k : Nat} {x : En} (hG : Hid (R = true ↔ FormedGo (prevTo L k) size (L.drop k))) (HF : f = prevTo L k) (HK : L[k]? = some x) (hbad : EnBad f size x) : R = false :=
  b_false hG (fun h => ((go_cons _ size L _ x HK).1 h).1 (by rw [← HF]; exact hbad))
theorem close_ok {R : Bool} {size f : Int} {L : List En} {k : Nat} {x : En} (hG : Hid (R = true ↔ FormedGo (prevTo L k) size (L.drop k))) (HF : f = prevTo L k) (HK : L[k]? = some x) (hok : ¬ EnBad f size x) : Hid (R = true ↔ FormedGo (prevTo L (k + 1)) size (L.drop (k + 1))) :=
  Lib.hid (by
    rw [hG.out, prevTo_succ L _ x HK, go_cons _ size L _ x HK, ← HF]
    exact ⟨fun h => h.2, fun h => ⟨hok, h⟩⟩)
theorem not_bad {f size : Int} {x : En} (h : ¬ EnBad f size x) : f ≤ x.frm ∧ 0 ≤ x.frm ∧ x.frm ≤ x.to ∧ x.to ≤ size ∧ 1 ≤ x.ver ∧ x.ver ≤ 4 ∧ 0 ≤ x.at_ ∧ x.at_ ≤ 65536 ∧ (x.bytes.size : Int) ≤ 1048576 ∧ ((x.bytes.size : Int) ≤ 0 ∨ x.ver = 1) := by
  unfold EnBad at h; omega

end Go.Proofs.Ytdbdmpdfjhmfhaa
