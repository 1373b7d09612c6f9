/- The walks of the reference's Few. -/
import Derived.Test.YtdbdmpdfjhmfhaaSb
import Derived.Test.YtdbdmpdfjhmfhaaIPlain
import Derived.Deep.LoopGhost
import Derived.LoopTactic
namespace Go.Proofs.Ytdbdmpdfjhmfhaa
open Go.RowKit Go.Proofs.Lx

/-- an entry's five cells -/
def EntAt (w : World) (b o : Nat) (x : En) : Prop :=
  w.cell? ⟨b, o, none⟩ = some (.int .i64 x.frm) ∧ w.cell? ⟨b, o + 1, none⟩ = some (.int .i64 x.to) ∧ w.cell? ⟨b, o + 2, none⟩ = some (.int .i64 x.ver) ∧
  w.cell? ⟨b, o + 3, none⟩ = some (.int .i64 x.at_) ∧ w.cell? ⟨b, o + 4, none⟩ = some (.string x.bytes)
/-- the slice (a, len) holds the entries L -/
def Ents (w : World) (a : Option Addr) (len : Nat) (L : List En) : Prop :=
  L.length = len ∧ len ≤ 9223372036854775807 ∧ (0 < len → ∃ b off, a = some ⟨b, off, none⟩ ∧ b < w.heap.size ∧ ∀ i x, L[i]? = some x → EntAt w b (off + i * 5) x)

theorem Ents.below {w w' : World} {a : Option Addr} {len : Nat} {L : List En} (h : Ents w a len L) (hb : Below w.heap.size w w') : Ents w' a len L := by
  obtain ⟨h1, h2, h3⟩ := h
  refine ⟨h1, h2, fun h0 => ?_⟩
  obtain ⟨b, off, ha, hlt, hx⟩ := h3 h0
  refine ⟨b, off, ha, Nat.lt_of_lt_of_le hlt hb.size, fun i x hi => ?_⟩
  obtain ⟨q0, q1, q2, q3, q4⟩ := hx i x hi
  have k : ∀ o, w'.cell? ⟨b, o, none⟩ = w.cell? ⟨b, o, none⟩ := fun o => hb.cell (p := ⟨b, o, none⟩) hlt
  exact ⟨by rw [k]; exact q0, by rw [k]; exact q1, by rw [k]; exact q2, by rw [k]; exact q3, by rw [k]; exact q4⟩

theorem ret_bool {a b : Bool} (h : a = b) : Ending.returned (.bool a) = .returned (.bool b) := by rw [h]
theorem b_true {R : Bool} {p : Prop} (h : Hid (R = true ↔ p)) (hp : p) : R = true := h.out.2 hp
theorem b_false {R : Bool} {p : Prop} (h : Hid (R = true ↔ p)) (hp : ¬ p) : R = false := by
  cases hr : R
  · rfl
  · exact absurd (h.out.1 hr) hp
theorem below1 (w : World) (o : Obj) : Below w.heap.size w (w.alloc o) := (Below.refl _ _).alloc (Nat.le_refl _) _

set_option maxRecDepth 100000 in
theorem few_any (deep size : Int) (a : Option Addr) (len cap : Nat) (L : List En) (w : World) (R : Bool) (hR : Hid (R = true ↔ FewT L)) (hE : Ents w a len L) :
    Calls Try.prog 8 #[.agg #[.int .i64 deep, .int .i64 size, .slice a len cap]] w fun e w' => e = .returned (.bool R) ∧ Below w.heap.size w w' := by
  have hlen := hE.2.1
  have HE := Lib.hid (hE.below (below1 w (.cells #[.int .i64 deep, .int .i64 size, .slice a len cap] 24)))
  clear hE
  go_enter Try.func8, Try.ntmps8
  go_wp2_with fail
  go_loop [3] (fun v => ∃ k : Nat, k ≤ len ∧ k ≤ 20 ∧ Hid (∀ i x, i < k → L[i]? = some x → x.bytes.size ≤ 200) ∧ v = .int .i64 k) (fun v => len - (intOf v).toNat)
  case atStart => exact ⟨0, by omega, by omega, Lib.hid (fun i x h => absurd h (Nat.not_lt_zero _)), rfl⟩
  case round =>
    obtain ⟨k, hk, hk20, hN, rfl⟩ := hrel
    by_cases hgo : k < len ∧ k < 20
    · obtain ⟨hlt, hlt2⟩ := hgo
      obtain ⟨b, off, rfl, hb, hx⟩ := HE.out.2.2 (by omega)
      obtain ⟨x, hxk⟩ : ∃ x, L[k]? = some x := ⟨_, List.getElem?_eq_getElem (by rw [HE.out.1]; exact hlt)⟩
      obtain ⟨q0, q1, q2, q3, q4⟩ := hx k x hxk
      have HK := Lib.hid hxk
      clear hx hxk q0 q1 q2 q3 hb
      by_cases h200 : x.bytes.size ≤ 200
      · go_wp2_with fail
        go_round
        case rel =>
          go_light
          exact ⟨k + 1, by omega, by omega, Lib.hid (fun i y hi hy => by
            by_cases e : i = k
            · subst e
              have := HK.out
              rw [this] at hy; injection hy with hy; rw [← hy]; exact h200
            · exact hN.out i y (by omega) hy), by go_num⟩
        case measure => go_light; simp [intOf]; omega
      · go_wp2_with fail
        go_ret
        exact ⟨ret_bool (b_false hR (fun h => h200 (h.1 k x (by omega) HK.out))).symm, below1 _ _⟩
    · have hl12 : Hid ((decide ((len : Int) ≤ 12)) = R) := Lib.hid (by
        by_cases h12 : len ≤ 12
        · rw [b_true hR ⟨fun i x hi hx => by
            have hil : i < L.length := (List.getElem?_eq_some_iff.1 hx).1
            exact hN.out i x (by have := HE.out.1; omega) hx, by have := HE.out.1; omega⟩]
          rw [decide_eq_true_eq]; omega
        · rw [b_false hR (fun h => by have := h.2; have := HE.out.1; omega), decide_eq_false_iff_not]; omega)
      by_cases hlt : k < len
      all_goals
        go_wp2_with fail
        go_ret
        exact ⟨ret_bool hl12.out, below1 _ _⟩
end Go.Proofs.Ytdbdmpdfjhmfhaa
