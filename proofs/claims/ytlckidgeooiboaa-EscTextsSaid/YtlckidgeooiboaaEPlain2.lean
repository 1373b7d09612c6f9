/- Plain functions of the strings' layer: what chars tells, one behind the other. -/
import Derived.Test.YtlckidgeooiboaaEPlain
namespace Go.Proofs.Le
open Go.Proofs.Lw
/-- what is told from a place on -/
def evs (l : List UInt8) : Nat → Nat → List (Int × Int)
  | 0, _ => []
  | f + 1, k =>
    if k < l.length ∧ l[k]? ≠ some 34 then ((charP (l.drop k)).1, ((k + (charP (l.drop k)).2 : Nat) : Int)) :: (if (charP (l.drop k)).1 = -1 then [] else evs l f (k + (charP (l.drop k)).2))
    else if k + 1 = l.length then [] else [(-1, (k : Int))]
/-- all that chars tells -/
def charsL (l : List UInt8) : List (Int × Int) := if l[0]? = some 34 then evs l (l.length + 1) 1 else [(-1, 0)]
theorem unitsP_len (l : List UInt8) (c : Int) (m : Nat) (h : unitsP l = (c, m)) : 6 ≤ m ∧ m ≤ 12 ∧ (c ≠ -1 → m ≤ l.length) := by
  have hlong : ∀ k : List UInt8, 0 ≤ unitP k → 4 ≤ k.length := fun k hk => by
    unfold unitP at hk
    split at hk <;> omega
  have hb := unitP_bd (l.drop 2)
  unfold unitsP at h
  split at h
  · simp only [Prod.mk.injEq] at h
    obtain ⟨rfl, rfl⟩ := h
    refine ⟨by omega, by omega, fun hc => ?_⟩
    have := hlong _ (show 0 ≤ unitP (l.drop 2) by omega)
    rw [List.length_drop] at this; omega
  · rename_i h0
    have h4 := hlong (l.drop 2) (by omega)
    rw [List.length_drop] at h4
    split at h
    · rename_i h1
      simp only [Prod.mk.injEq] at h
      obtain ⟨rfl, rfl⟩ := h
      refine ⟨by omega, by omega, fun _ => ?_⟩
      unfold lowP at h1
      split at h1
      · have := hlong _ (show 0 ≤ unitP ((l.drop 6).drop 2) by omega)
        rw [List.length_drop, List.length_drop] at this; omega
      · omega
    · simp only [Prod.mk.injEq] at h
      obtain ⟨rfl, rfl⟩ := h
      exact ⟨by omega, by omega, fun _ => by omega⟩
theorem charP_len (l : List UInt8) (c : Int) (m : Nat) (h : charP l = (c, m)) (hu : (uscal l).2 ≤ l.length) : m ≤ 12 + l.length ∧ (c ≠ -1 → 1 ≤ m ∧ m ≤ l.length) := by
  cases l with
  | nil =>
    simp only [charP, Prod.mk.injEq] at h
    obtain ⟨rfl, rfl⟩ := h
    exact ⟨by omega, fun h => absurd rfl h⟩
  | cons a r =>
    rw [charP] at h
    split at h
    · simp only [Prod.mk.injEq] at h
      obtain ⟨rfl, rfl⟩ := h
      exact ⟨by omega, fun h => absurd rfl h⟩
    · split at h
      · simp only [Prod.mk.injEq] at h
        obtain ⟨h1, rfl⟩ := h
        refine ⟨by omega, fun hc => ⟨?_, hu⟩⟩
        by_cases h0 : (uscal (a :: r)).2 = 0
        · rw [if_pos h0] at h1; exact absurd h1.symm hc
        · omega
      · cases r with
        | nil =>
          simp only [escP, Prod.mk.injEq] at h
          obtain ⟨rfl, rfl⟩ := h
          exact ⟨by omega, fun h => absurd rfl h⟩
        | cons b r =>
          rw [escP] at h
          split at h
          · have := unitsP_len _ _ _ h
            exact ⟨by omega, fun hc => ⟨by omega, this.2.2 hc⟩⟩
          · simp only [Prod.mk.injEq] at h
            obtain ⟨rfl, rfl⟩ := h
            exact ⟨by omega, fun _ => ⟨by omega, by simp⟩⟩
theorem evs_in (l : List UInt8) (f k : Nat) (c : Int) (m : Nat) (h : k < l.length ∧ l[k]? ≠ some 34) (hc : charP (l.drop k) = (c, m)) : evs l (f + 1) k = (c, ((k + m : Nat) : Int)) :: (if c = -1 then [] else evs l f (k + m)) := by
  rw [evs, if_pos h, hc]
theorem evs_out (l : List UInt8) (f k : Nat) (h : ¬ (k < l.length ∧ l[k]? ≠ some 34)) : evs l (f + 1) k = if k + 1 = l.length then [] else [(-1, (k : Int))] := by
  rw [evs, if_neg h]
end Go.Proofs.Le
