/- Plain law of the strings' layer: what the reference reads ahead of the last mark. -/
import Derived.Test.YtlckidgeooiboaaEPlain6
namespace Go.Proofs.Le
open Go.Proofs.Lw
theorem unitA_mark (l : List UInt8) (n : Int) (k : List UInt8) : unitA n (l ++ 34 :: k) = -1 := by
  induction l generalizing n with
  | nil => rw [List.nil_append, unitA, if_pos (by decide)]
  | cons b l ih =>
    rw [List.cons_append, unitA]
    split
    · rfl
    · exact ih _
theorem unitP_mark (l : List UInt8) : unitP (l ++ [34]) = unitP l := by
  by_cases h : 4 ≤ l.length
  · exact unitP_append l [34] h
  · rw [unitP_short l (by omega)]
    unfold unitP
    split
    · rfl
    · rename_i h2
      rw [List.length_append] at h2
      simp only [List.length_cons, List.length_nil] at h2
      rw [List.take_of_length_le (by rw [List.length_append]; simp; omega)]
      exact unitA_mark l 0 []
theorem lowP_mark (l : List UInt8) : lowP (l ++ [34]) = lowP l := by
  by_cases h : 6 ≤ l.length
  · exact lowP_append l [34] h
  · rw [lowP_short l (by omega)]
    unfold lowP
    by_cases h2 : 2 ≤ l.length
    · split
      · rw [List.drop_append_of_le_length h2, unitP_mark, unitP_short _ (by rw [List.length_drop]; omega)]
      · rfl
    · rw [if_neg]
      intro e
      rcases l with _ | ⟨a, _ | ⟨b, l⟩⟩
      · simp at e
      · simp at e
      · exact h2 (by simp)
theorem uscal_mark (x : List UInt8) (hx : x ≠ []) (h : (uscal x).2 = 0) : (uscal (x ++ [34])).2 = 0 := by
  by_cases hn : (uscal (x ++ [34])).2 = 0
  · exact hn
  · exfalso
    have hp := uscal_is _ hn
    have hle := uscal_le (x ++ [34])
    obtain ⟨c, n, hcn⟩ : ∃ c n, uscal (x ++ [34]) = (c, n) := ⟨_, _, rfl⟩
    rw [hcn] at hp hn hle
    simp only at hp hn hle
    rw [List.length_append] at hle
    simp only [List.length_cons, List.length_nil] at hle
    have hxl := List.length_pos_iff.2 hx
    have hne : putL c ≠ [] := by
      rw [hp]; intro e; have := congrArg List.length e; rw [List.length_take, List.length_append, List.length_nil] at this; simp only [List.length_cons, List.length_nil] at this; omega
    by_cases hlt : n ≤ x.length
    · rw [List.take_append_of_le_length hlt] at hp
      have hs : x = putL c ++ x.drop n := by rw [hp, List.take_append_drop]
      have := uscal_put c (x.drop n) hne
      rw [← hs] at this
      rw [this] at h
      exact hne (List.eq_nil_of_length_eq_zero h)
    · have hnn : n = x.length + 1 := by omega
      rw [List.take_of_length_le (by rw [List.length_append]; simp; omega)] at hp
      by_cases h128 : c < 128
      · have h1 : (putL c).length ≤ 1 := by
          unfold putL putN
          (repeat' split) <;> simp <;> omega
        rw [hp, List.length_append] at h1
        simp only [List.length_cons, List.length_nil] at h1
        omega
      · have := putL_high c (by omega) 34 (by rw [hp]; simp)
        exact absurd this (by decide)
/-- the reference's reading, ahead of the last mark -/
def rA : Nat → List UInt8 → List Int → Option (List Int)
  | 0, _, _ => none
  | f + 1, x, acc =>
    if x = [] then some acc
    else if x.head? = some 34 then none
    else if (charP (x ++ [34])).1 = -1 ∨ x.length < (charP (x ++ [34])).2 then none
    else rA f (x.drop (charP (x ++ [34])).2) (acc ++ [(charP (x ++ [34])).1])
theorem okS_in {f : Nat} {x : List UInt8} (h : x ≠ [] ∧ x.head? ≠ some 34) : okS (f + 1) x = ((charP x).1 ≠ -1 ∧ okS f (x.drop (charP x).2)) := by rw [okS, if_pos h]
theorem okS_out {f : Nat} {x : List UInt8} (h : ¬ (x ≠ [] ∧ x.head? ≠ some 34)) : okS (f + 1) x = (x.length = 1) := by rw [okS, if_neg h]
theorem chS_in {f : Nat} {x : List UInt8} (h : x ≠ [] ∧ x.head? ≠ some 34) : chS (f + 1) x = (charP x).1 :: chS f (x.drop (charP x).2) := by rw [chS, if_pos h]
theorem chS_out {f : Nat} {x : List UInt8} (h : ¬ (x ≠ [] ∧ x.head? ≠ some 34)) : chS (f + 1) x = [] := by rw [chS, if_neg h]
theorem rA_go {f : Nat} {x : List UInt8} {acc : List Int} (h : x ≠ []) (h2 : x.head? ≠ some 34) : rA (f + 1) x acc = if (charP (x ++ [34])).1 = -1 ∨ x.length < (charP (x ++ [34])).2 then none else rA f (x.drop (charP (x ++ [34])).2) (acc ++ [(charP (x ++ [34])).1]) := by rw [rA, if_neg h, if_neg h2]
theorem rA_34 {f : Nat} {x : List UInt8} {acc : List Int} (h : x ≠ []) (h2 : x.head? = some 34) : rA (f + 1) x acc = none := by rw [rA, if_neg h, if_pos h2]
theorem rA_link (f : Nat) (x : List UInt8) (acc : List Int) (hf : x.length + 1 < f) :
    (okS f (x ++ [34]) → rA f x acc = some (acc ++ chS f (x ++ [34]))) ∧ (¬ okS f (x ++ [34]) → rA f x acc = none) := by
  induction f generalizing x acc with
  | zero => omega
  | succ f ih =>
    by_cases hx : x = []
    · subst hx
      have hn : ¬ (([] ++ [34] : List UInt8) ≠ [] ∧ ([] ++ [34] : List UInt8).head? ≠ some 34) := by simp
      rw [okS_out hn, chS_out hn, rA, if_pos rfl]
      exact ⟨fun _ => by simp, fun h => absurd (by simp) h⟩
    · obtain ⟨a, r, rfl⟩ := List.exists_cons_of_ne_nil hx
      by_cases h34 : a = 34
      · subst h34
        have hn : ¬ ((34 :: r ++ [34] : List UInt8) ≠ [] ∧ (34 :: r ++ [34] : List UInt8).head? ≠ some 34) := by simp
        rw [okS_out hn, rA_34 (by simp) (by simp)]
        refine ⟨fun h => ?_, fun _ => rfl⟩
        rw [List.length_append] at h; simp at h
      · have hcond : a :: r ++ [34] ≠ [] ∧ (a :: r ++ [34]).head? ≠ some 34 := ⟨by simp, by simpa using h34⟩
        rw [okS_in hcond, chS_in hcond, rA_go (by simp) (by simpa using h34)]
        obtain ⟨c, m, hcm⟩ : ∃ c m, charP (a :: r ++ [34]) = (c, m) := ⟨_, _, rfl⟩
        rw [hcm]
        simp only
        by_cases hc : c = -1
        · rw [if_pos (.inl hc)]; exact ⟨fun h => absurd hc h.1, fun _ => rfl⟩
        · have hlen := (charP_len _ c m hcm (uscal_le _)).2 hc
          rw [List.length_append] at hlen
          simp only [List.length_cons, List.length_nil] at hlen hf
          by_cases hm : (a :: r).length < m
          · rw [if_pos (.inr hm)]
            refine ⟨fun h => ?_, fun _ => rfl⟩
            obtain ⟨g, rfl⟩ : ∃ g, f = g + 1 := ⟨f - 1, by omega⟩
            have he : (a :: r ++ [34]).drop m = [] := List.drop_eq_nil_of_le (by rw [List.length_append]; simp only [List.length_cons, List.length_nil] at hm ⊢; omega)
            rw [he, okS_out (by simp)] at h
            exact absurd h.2 (by simp)
          · rw [if_neg (by rintro (e | e); exact hc e; exact hm e)]
            have hd : (a :: r ++ [34]).drop m = (a :: r).drop m ++ [34] := List.drop_append_of_le_length (by omega)
            rw [hd]
            obtain ⟨i1, i2⟩ := ih ((a :: r).drop m) (acc ++ [c]) (by rw [List.length_drop]; simp only [List.length_cons]; omega)
            exact ⟨fun h => by rw [i1 h.2]; simp, fun h => i2 (fun h' => h ⟨hc, h'⟩)⟩
/-! how a step goes -/
theorem rA_nil (f : Nat) (acc : List Int) : rA (f + 1) [] acc = some acc := by rw [rA, if_pos rfl]
theorem rA_low (f : Nat) (a : UInt8) (r : List UInt8) (acc : List Int) (h : a = 34 ∨ a < 32) : rA (f + 1) (a :: r) acc = none := by
  rw [rA, if_neg (by simp)]
  by_cases h34 : a = 34
  · rw [if_pos (by simpa using h34)]
  · rw [if_neg (by simpa using h34), if_pos]
    left; rw [List.cons_append, charP, if_pos h]
theorem rA_raw (f : Nat) (a : UInt8) (r : List UInt8) (acc : List Int) (h : ¬ (a = 34 ∨ a < 32)) (h2 : a ≠ 92) (c : Int) (m : Nat) (hu : uscal (a :: r) = (c, m)) : rA (f + 1) (a :: r) acc = if m = 0 then none else rA f ((a :: r).drop m) (acc ++ [c]) := by
  rw [rA, if_neg (by simp), if_neg (by simpa using fun e => h (.inl e))]
  have e : charP (a :: r ++ [34]) = (if (uscal (a :: r ++ [34])).2 = 0 then -1 else (uscal (a :: r ++ [34])).1, (uscal (a :: r ++ [34])).2) := by
    rw [List.cons_append, charP, if_neg h, if_pos h2]
  rw [e]
  by_cases hm : m = 0
  · have := uscal_mark (a :: r) (by simp) (by rw [hu]; exact hm)
    rw [if_pos this, if_pos hm, if_pos (.inl rfl)]
  · have hn : (uscal (a :: r)).2 ≠ 0 := by rw [hu]; exact hm
    have ha := uscal_append (a :: r) [34] hn
    have hp := uscal_is _ hn
    have hle := uscal_le (a :: r)
    rw [ha, hu]
    rw [hu] at hp hle
    simp only at hp hle ⊢
    rw [if_neg hm, if_neg hm, if_neg]
    rintro (e1 | e1)
    · rw [e1, (putL_none (-1)).2 (.inl (by decide))] at hp
      have := congrArg List.length hp
      rw [List.length_take, List.length_nil] at this
      simp only [List.length_cons] at this; omega
    · omega
theorem take2 (x : List UInt8) (h : lowP x ≠ -1) : ∃ r, x = 92 :: 117 :: r := by
  unfold lowP at h
  split at h
  · rename_i e
    rcases x with _ | ⟨a, _ | ⟨b, r⟩⟩
    · simp at e
    · simp at e
    · simp at e; exact ⟨r, by rw [e.1, e.2]⟩
  · exact absurd rfl h
theorem lowP_bd (l : List UInt8) : -1 ≤ lowP l ∧ lowP l < 65536 := by
  unfold lowP
  split
  · exact unitP_bd _
  · omega
/-- 5c 75 and four digits -/
theorem rA_unit (f : Nat) (x : List UInt8) (acc : List Int) (u v : Int) (hu : lowP x = u) (h0 : 0 ≤ u) (hv : lowP (x.drop 6) = v) :
    rA (f + 1) x acc = if u < 55296 ∨ 57343 < u then rA f (x.drop 6) (acc ++ [u])
      else if u < 56320 ∧ 56320 ≤ v ∧ v ≤ 57343 then rA f (x.drop 12) (acc ++ [65536 + (u - 55296) * 1024 + (v - 56320)]) else rA f (x.drop 6) (acc ++ [65533]) := by
  have h6 : 6 ≤ x.length := by
    rcases Nat.lt_or_ge x.length 6 with h | h
    · rw [lowP_short x h] at hu; omega
    · exact h
  obtain ⟨r, rfl⟩ := take2 x (by omega)
  have e1 : unitP ((92 :: 117 :: r ++ [34] : List UInt8).drop 2) = u := by
    show unitP (r ++ [34]) = u
    rw [unitP_mark, ← hu, lowP, if_pos (by simp)]; rfl
  have e2 : lowP ((92 :: 117 :: r ++ [34] : List UInt8).drop 6) = v := by
    rw [List.drop_append_of_le_length h6, lowP_mark]; exact hv
  have ec : charP (92 :: 117 :: r ++ [34]) = unitsP (92 :: 117 :: r ++ [34]) := by
    rw [List.cons_append, List.cons_append, charP, if_neg (by decide), if_neg (by decide), escP, if_pos rfl]
  rw [rA, if_neg (by simp), if_neg (by simp), ec, unitsP, e1, e2]
  by_cases h1 : u < 55296 ∨ 57343 < u
  · rw [if_pos h1, if_pos h1, if_neg (by simp only; omega)]
  · rw [if_neg h1, if_neg h1]
    by_cases h2 : u < 56320 ∧ 56320 ≤ v ∧ v ≤ 57343
    · have h12 : 12 ≤ (92 :: 117 :: r : List UInt8).length := by
        rcases Nat.lt_or_ge ((92 :: 117 :: r : List UInt8).drop 6).length 6 with h | h
        · rw [lowP_short _ h] at hv; omega
        · rw [List.length_drop] at h; omega
      rw [if_pos h2, if_pos h2, if_neg (by simp only; omega)]
    · rw [if_neg h2, if_neg h2, if_neg (by simp only; omega)]
theorem rA_one (f : Nat) (acc : List Int) : rA (f + 1) [92] acc = none := by
  rw [rA, if_neg (by simp), if_neg (by simp), if_pos]
  right; decide
theorem rA_sign (f : Nat) (b : UInt8) (r : List UInt8) (acc : List Int) (hu : lowP (92 :: b :: r) < 0) : rA (f + 1) (92 :: b :: r) acc = if simpleP b.toNat = -1 then none else rA f r (acc ++ [simpleP b.toNat]) := by
  rw [rA, if_neg (by simp), if_neg (by simp)]
  by_cases hb : b = 117
  · subst hb
    have hm : lowP (92 :: 117 :: r) = -1 := by have := lowP_bd (92 :: 117 :: r); omega
    have e1 : unitP ((92 :: 117 :: r ++ [34] : List UInt8).drop 2) = -1 := by
      show unitP (r ++ [34]) = -1
      rw [unitP_mark, ← hm, lowP, if_pos (by simp)]; rfl
    have ec : charP (92 :: 117 :: r ++ [34]) = unitsP (92 :: 117 :: r ++ [34]) := by
      rw [List.cons_append, List.cons_append, charP, if_neg (by decide), if_neg (by decide), escP, if_pos rfl]
    have eu : unitsP (92 :: 117 :: r ++ [34]) = (-1, 6) := by rw [unitsP, e1, if_pos (.inl (by omega))]
    rw [ec, eu]
    have es : simpleP ((117 : UInt8).toNat : Int) = -1 := by decide
    rw [if_pos es, if_pos (.inl rfl)]
  · have ec : charP (92 :: b :: r ++ [34]) = (simpleP b.toNat, 2) := by
      rw [List.cons_append, List.cons_append]; exact charP_esc b _ hb
    rw [ec]
    by_cases hs : simpleP b.toNat = -1
    · rw [if_pos (.inl hs), if_pos hs]
    · rw [if_neg (by rintro (e | e); exact hs e; simp only [List.length_cons] at e; omega), if_neg hs]; rfl
end Go.Proofs.Le
