/- The walk of the reference's Same, of two tables that are the same. -/
import Derived.Test.YtdbdmpdfjhmfhaaIW9
import Derived.Deep.RegionLaw
import Derived.Deep.QuietTactic
import Derived.BigQuiet
import Derived.WalkSmall
namespace Go.Proofs.Ytdbdmpdfjhmfhaa
open Go.RowKit Go.Proofs.Lx

/-- what stands through Same's loop -/
def S2 (w wr : World) (a a' : Option Addr) (len cap cap' : Nat) (L : List En) : Prop :=
  wr.cell? ⟨w.heap.size, 2, none⟩ = some (.slice a len cap) ∧ wr.cell? ⟨w.heap.size + 1, 2, none⟩ = some (.slice a' len cap') ∧ Ents wr a len L ∧ Ents wr a' len L ∧ Below w.heap.size w wr
theorem S2.drewN {w wr : World} {a a' : Option Addr} {len cap cap' : Nat} {L : List En} (h : S2 w wr a a' len cap cap' L) (n : Nat) : S2 w (wr.drewN n) a a' len cap cap' L :=
  ⟨h.1, h.2.1, h.2.2.1.below (below_drewN (Below.refl _ _) n), h.2.2.2.1.below (below_drewN (Below.refl _ _) n), below_drewN h.2.2.2.2 n⟩
set_option maxRecDepth 100000 in
set_option maxHeartbeats 4000000 in
theorem same_yes (deep size : Int) (a a' : Option Addr) (len cap cap' : Nat) (L : List En) (w : World) (hE : Ents w a len L) (hE' : Ents w a' len L) :
    Calls Try.prog 15 #[.agg #[.int .i64 deep, .int .i64 size, .slice a len cap], .agg #[.int .i64 deep, .int .i64 size, .slice a' len cap']] w fun e w' => e = .returned (.bool true) ∧ Below w.heap.size w w' := by
  have hlen := hE.2.1
  have HE := Lib.hid ((hE.below (below1 w (.cells #[.int .i64 deep, .int .i64 size, .slice a len cap] 24))).below (below1 _ (.cells #[.int .i64 deep, .int .i64 size, .slice a' len cap'] 24)))
  have HE' := Lib.hid ((hE'.below (below1 w (.cells #[.int .i64 deep, .int .i64 size, .slice a len cap] 24))).below (below1 _ (.cells #[.int .i64 deep, .int .i64 size, .slice a' len cap'] 24)))
  have HS : Hid (S2 w ((w.alloc (.cells #[.int .i64 deep, .int .i64 size, .slice a len cap] 24)).alloc (.cells #[.int .i64 deep, .int .i64 size, .slice a' len cap'] 24)) a a' len cap cap' L) := Lib.hid (by
    refine ⟨?_, ?_, HE.out, HE'.out, (below1 w _).alloc (by simp) _⟩
    · rw [cell_of_block (C := #[.int .i64 deep, .int .i64 size, .slice a len cap]) (t := 24) (fz := (0, 0)) (heap_alloc2_old w _ _)]; rfl
    · rw [cell_of_block (C := #[.int .i64 deep, .int .i64 size, .slice a' len cap']) (t := 24) (fz := (0, 0)) (heap_alloc2_new w _ _)]; rfl)
  clear hE hE' HE HE'
  go_enter Try.func15, Try.ntmps15
  go_wp2_with fail
  go_loopg [5] len (fun g v5 wr => ∃ k : Nat, k ≤ len ∧ g = len - k ∧ v5 = .int .i64 k ∧ Hid (S2 w wr a a' len cap cap' L))
  case atStart => exact ⟨0, Nat.zero_le _, rfl, rfl, HS⟩
  case round =>
    clear HS
    obtain ⟨k, hk, rfl, rfl, HS⟩ := hrel
    obtain ⟨c0, c1, hE, hE', _⟩ := HS.out
    by_cases hlt : k < len
    · have hdk : decide ((k : Int) < (len : Int)) = true := by rw [decide_eq_true_eq]; omega
      obtain ⟨b, off, rfl, hb, hx⟩ := hE.2.2 (by omega)
      obtain ⟨b', off', rfl, hb', hx'⟩ := hE'.2.2 (by omega)
      obtain ⟨x, hxk⟩ : ∃ x, L[k]? = some x := ⟨_, List.getElem?_eq_getElem (by rw [hE.1]; exact hlt)⟩
      obtain ⟨q0, q1, q2, q3, q4⟩ := hx k x hxk
      obtain ⟨p0, p1, p2, p3, p4⟩ := hx' k x hxk
      clear hx hx' hxk hE hE'
      go_wp2_with fail
      go_quiet (fail)
      have HS2 := Lib.hid (HS.out.drewN nq)
      clear HS
      go_wp2_with fail
      go_roundg (len - (k + 1))
      case rel => go_light; exact ⟨k + 1, by omega, rfl, by go_num, HS2⟩
      case measure => go_light; omega
    · have hdk : decide ((k : Int) < (len : Int)) = false := by rw [decide_eq_false_iff_not]; omega
      go_wp2_with fail
      go_ret
      exact ⟨rfl, HS.out.2.2.2.2⟩
end Go.Proofs.Ytdbdmpdfjhmfhaa
