/- Plain law of the strings' layer: no string begins another. -/
import Derived.Test.YtlckidgeooiboaaEPlain3
namespace Go.Proofs.Le
open Go.Proofs.Lw
theorem uscalS_append (l z : List UInt8) (st c : Int) (i : Nat) (h : (uscalS st c i l).2 ≠ 0) : uscalS st c i (l ++ z) = uscalS st c i l := by
  induction l generalizing st c i with
  | nil => exact absurd rfl h
  | cons b l ih =>
    rw [List.cons_append]
    rw [uscalS_cons] at h
    rw [uscalS_cons, uscalS_cons]
    split
    · rfl
    · rename_i h1
      rw [if_neg h1] at h
      split
      · rfl
      · rename_i h2
        rw [if_neg h2] at h
        exact ih _ _ _ h
theorem uscal_append (l z : List UInt8) (h : (uscal l).2 ≠ 0) : uscal (l ++ z) = uscal l := uscalS_append l z 0 0 0 h
theorem uscal_le (l : List UInt8) : (uscal l).2 ≤ l.length := by
  by_cases h : (uscal l).2 = 0
  · omega
  · exact (uscal_some l h).1
theorem unitP_append (l z : List UInt8) (h : 4 ≤ l.length) : unitP (l ++ z) = unitP l := by
  unfold unitP
  rw [if_neg (by rw [List.length_append]; omega), if_neg (by omega), List.take_append_of_le_length h]
theorem unitP_short (l : List UInt8) (h : l.length < 4) : unitP l = -1 := by rw [unitP, if_pos h]
theorem unitP_long' (l : List UInt8) (h : unitP l ≠ -1) : 4 ≤ l.length := by
  rcases Nat.lt_or_ge l.length 4 with h' | h'
  · exact absurd (unitP_short l h') h
  · exact h'
theorem lowP_append (l z : List UInt8) (h : 6 ≤ l.length) : lowP (l ++ z) = lowP l := by
  unfold lowP
  rw [List.take_append_of_le_length (by omega), List.drop_append_of_le_length (by omega), unitP_append _ _ (by rw [List.length_drop]; omega)]
theorem lowP_short (l : List UInt8) (h : l.length < 6) : lowP l = -1 := by
  unfold lowP
  split
  · exact unitP_short _ (by rw [List.length_drop]; omega)
  · rfl
/-- a beginning of 5c 75 and four digits, and no more -/
def Part (r : List UInt8) : Prop := r = [] ∨ r = [92] ∨ ∃ q, r = 92 :: 117 :: q ∧ q.length < 4
theorem part_of (r z : List UInt8) (h : r.length < 6) (h2 : (r ++ z).take 2 = [92, 117]) : Part r := by
  match r, h, h2 with
  | [], _, _ => exact .inl rfl
  | [a], _, h2 =>
    right; left
    cases z with
    | nil => simp at h2
    | cons b z => simp at h2; rw [h2.1]
  | a :: b :: q, h, h2 =>
    right; right
    simp at h2
    exact ⟨q, by rw [h2.1, h2.2], by simp at h; omega⟩
theorem unitsP_append (x z : List UInt8) (c : Int) (m : Nat) (h : unitsP x = (c, m)) (hc : c ≠ -1) : unitsP (x ++ z) = (c, m) ∨ (m = 6 ∧ 6 ≤ x.length ∧ Part (x.drop 6)) := by
  have hu : unitP (x.drop 2) ≠ -1 := by
    intro hm
    unfold unitsP at h
    rw [hm] at h
    simp at h
    exact hc h.1.symm
  have h4 := unitP_long' _ hu
  rw [List.length_drop] at h4
  have e2 : unitP ((x ++ z).drop 2) = unitP (x.drop 2) := by
    rw [List.drop_append_of_le_length (by omega), unitP_append _ _ (by rw [List.length_drop]; omega)]
  unfold unitsP at *
  rw [e2]
  by_cases h1 : unitP (x.drop 2) < 55296 ∨ 57343 < unitP (x.drop 2)
  · rw [if_pos h1] at h ⊢; left; exact h
  · rw [if_neg h1] at h ⊢
    have e6 : (x ++ z).drop 6 = x.drop 6 ++ z := List.drop_append_of_le_length (by omega)
    rw [e6]
    by_cases h6 : 6 ≤ (x.drop 6).length
    · rw [lowP_append _ _ h6]; left; exact h
    · have hl := lowP_short (x.drop 6) (by omega)
      rw [hl, if_neg (by omega)] at h
      by_cases h2 : unitP (x.drop 2) < 56320 ∧ 56320 ≤ lowP (x.drop 6 ++ z) ∧ lowP (x.drop 6 ++ z) ≤ 57343
      · right
        simp only [Prod.mk.injEq] at h
        refine ⟨h.2.symm, by omega, part_of _ z (by omega) ?_⟩
        have := h2.2.1
        unfold lowP at this
        split at this
        · rename_i h'; exact h'
        · omega
      · rw [if_neg h2]; left; exact h
theorem charP_append (x z : List UInt8) (c : Int) (m : Nat) (h : charP x = (c, m)) (hc : c ≠ -1) : charP (x ++ z) = (c, m) ∨ (m = 6 ∧ 6 ≤ x.length ∧ Part (x.drop 6)) := by
  cases x with
  | nil => simp only [charP, Prod.mk.injEq] at h; exact absurd h.1.symm hc
  | cons a r =>
    rw [List.cons_append]
    rw [charP] at h ⊢
    by_cases h1 : a = 34 ∨ a < 32
    · rw [if_pos h1] at h; simp only [Prod.mk.injEq] at h; exact absurd h.1.symm hc
    · rw [if_neg h1] at h ⊢
      by_cases h2 : a ≠ 92
      · rw [if_pos h2] at h ⊢
        left
        simp only [Prod.mk.injEq] at h
        have hn : (uscal (a :: r)).2 ≠ 0 := by
          intro h0; rw [if_pos h0] at h; exact hc h.1.symm
        have := uscal_append (a :: r) z hn
        rw [List.cons_append] at this
        rw [this]
        rw [h.1, h.2]
      · rw [if_neg h2] at h ⊢
        cases r with
        | nil => simp only [escP, Prod.mk.injEq] at h; exact absurd h.1.symm hc
        | cons b q =>
          rw [List.cons_append]
          rw [escP] at h ⊢
          by_cases hb : b = 117
          · rw [if_pos hb] at h ⊢
            have := unitsP_append (a :: b :: q) z c m h hc
            exact this
          · rw [if_neg hb] at h ⊢; left; exact h
/-- a string, from a place behind its first mark on -/
def okS : Nat → List UInt8 → Prop
  | 0, _ => True
  | f + 1, x => if x ≠ [] ∧ x.head? ≠ some 34 then (charP x).1 ≠ -1 ∧ okS f (x.drop (charP x).2) else x.length = 1
theorem okS_part (f : Nat) (r : List UInt8) (h : Part r) : ¬ okS (f + 1) r := by
  intro ho
  rcases h with rfl | rfl | ⟨q, rfl, hq⟩
  · simp [okS] at ho
  · rw [okS, if_pos ⟨by simp, by simp⟩] at ho; exact ho.1 rfl
  · rw [okS, if_pos ⟨by simp, by simp⟩] at ho
    have e : charP (92 :: 117 :: q) = unitsP (92 :: 117 :: q) := by rw [charP, if_neg (by decide), if_neg (by decide), escP, if_pos rfl]
    have e2 : unitP ((92 :: 117 :: q : List UInt8).drop 2) = -1 := unitP_short _ (by simpa using hq)
    rw [e, unitsP, e2, if_pos (.inl (by omega))] at ho
    exact ho.1 rfl
/-- no string begins another -/
theorem no_prefix (f f' : Nat) (x z : List UInt8) (hz : z ≠ []) (h : okS f x) (h' : okS f' (x ++ z)) (hf : x.length < f) (hf' : (x ++ z).length < f') : False := by
  induction f generalizing f' x with
  | zero => omega
  | succ f ih =>
    obtain ⟨f', rfl⟩ : ∃ k, f' = k + 1 := ⟨f' - 1, by omega⟩
    by_cases hx : x ≠ [] ∧ x.head? ≠ some 34
    · have hx' : x ++ z ≠ [] ∧ (x ++ z).head? ≠ some 34 := by
        obtain ⟨a, r, rfl⟩ := List.exists_cons_of_ne_nil hx.1
        exact ⟨by simp, by simpa using hx.2⟩
      rw [okS, if_pos hx] at h
      rw [okS, if_pos hx'] at h'
      obtain ⟨c, m, hcm⟩ : ∃ c m, charP x = (c, m) := ⟨_, _, rfl⟩
      rw [hcm] at h
      have hlen := (charP_len x c m hcm (uscal_le x)).2 h.1
      rcases charP_append x z c m hcm h.1 with e | ⟨rfl, h6, hp⟩
      · rw [e] at h'
        have hd : (x ++ z).drop m = x.drop m ++ z := List.drop_append_of_le_length hlen.2
        rw [hd] at h'
        refine ih f' (x.drop m) h.2 h'.2 (by rw [List.length_drop]; omega) ?_
        have := hf'
        rw [List.length_append] at this ⊢
        rw [List.length_drop]; omega
      · obtain ⟨k, rfl⟩ : ∃ k, f = k + 1 := ⟨f - 1, by omega⟩
        exact okS_part k _ hp h.2
    · rw [okS, if_neg hx] at h
      obtain ⟨a, rfl⟩ := List.length_eq_one_iff.1 h
      have ha : a = 34 := by
        by_cases h34 : a = 34
        · exact h34
        · exact absurd ⟨by simp, by simpa using h34⟩ hx
      subst ha
      rw [okS, if_neg (by simp)] at h'
      apply hz
      have : z.length = 0 := by rw [List.length_append] at h'; simpa using h'
      exact List.eq_nil_of_length_eq_zero this
theorem evs_ok (l : List UInt8) (f k : Nat) : (∀ y ∈ evs l f k, y.1 ≠ -1) ↔ okS f (l.drop k) := by
  induction f generalizing k with
  | zero => simp [evs, okS]
  | succ f ih =>
    have hcond : (k < l.length ∧ l[k]? ≠ some 34) ↔ (l.drop k ≠ [] ∧ (l.drop k).head? ≠ some 34) := by
      rw [List.head?_drop]
      constructor
      · rintro ⟨h1, h2⟩
        exact ⟨by intro e; have := congrArg List.length e; rw [List.length_drop] at this; simp at this; omega, h2⟩
      · rintro ⟨h1, h2⟩
        refine ⟨?_, h2⟩
        rcases Nat.lt_or_ge k l.length with h | h
        · exact h
        · exact absurd (List.drop_eq_nil_of_le h) h1
    rw [evs, okS]
    by_cases h : k < l.length ∧ l[k]? ≠ some 34
    · rw [if_pos h, if_pos (hcond.1 h)]
      obtain ⟨c, m, hcm⟩ : ∃ c m, charP (l.drop k) = (c, m) := ⟨_, _, rfl⟩
      rw [hcm, List.drop_drop]
      simp only [List.mem_cons, forall_eq_or_imp]
      by_cases hc : c = -1
      · simp [hc]
      · rw [if_neg hc]
        rw [ih (k + m)]
    · rw [if_neg h, if_neg (fun h' => h (hcond.2 h'))]
      rw [List.length_drop]
      by_cases h1 : k + 1 = l.length
      · rw [if_pos h1]; simp; omega
      · rw [if_neg h1]; simp; omega
/-- a string -/
def OkL (l : List UInt8) : Prop := ∀ y ∈ charsL l, y.1 ≠ -1
theorem ok_iff (l : List UInt8) : OkL l ↔ l[0]? = some 34 ∧ okS (l.length + 1) (l.drop 1) := by
  unfold OkL charsL
  by_cases h : l[0]? = some 34
  · rw [if_pos h, evs_ok]; simp [h]
  · rw [if_neg h]; simp [h]
theorem ok_prefix (x z : List UInt8) (hz : z ≠ []) (h : OkL x) (h' : OkL (x ++ z)) : False := by
  rw [ok_iff] at h h'
  have hx : 1 ≤ x.length := by
    rcases Nat.lt_or_ge 0 x.length with h1 | h1
    · exact h1
    · rw [List.getElem?_eq_none h1] at h; exact absurd h.1 (by simp)
  have e : (x ++ z).drop 1 = x.drop 1 ++ z := List.drop_append_of_le_length hx
  rw [e] at h'
  refine no_prefix _ _ (x.drop 1) z hz h.2 h'.2 (by rw [List.length_drop]; omega) ?_
  rw [List.length_append, List.length_append, List.length_drop]; omega
end Go.Proofs.Le
