/- Plain law of the strings' layer: text and shortest string, there and back. -/
import Derived.Test.YtlckidgeooiboaaEPlain5
namespace Go.Proofs.Le
open Go.Proofs.Lw
theorem ctl_unit : ∀ c : Fin 32, unitP [48, 48, hexd (c.1 / 16), hexd (c.1 % 16)] = (c.1 : Int) := by decide
theorem charP_esc (b : UInt8) (X : List UInt8) (hb : b ≠ 117) : charP (92 :: b :: X) = (simpleP b.toNat, 2) := by
  rw [charP, if_neg (by decide), if_neg (by decide), escP, if_neg hb]
theorem charP_ctl (c : Nat) (hc : c < 32) (X : List UInt8) : charP (ctlB c ++ X) = ((c : Int), (ctlB c).length) := by
  unfold ctlB
  by_cases h8 : c = 8
  · subst h8; rw [if_pos rfl]; exact charP_esc 98 X (by decide)
  · rw [if_neg h8]
    by_cases h12 : c = 12
    · subst h12; rw [if_pos rfl]; exact charP_esc 102 X (by decide)
    · rw [if_neg h12]
      by_cases h10 : c = 10
      · subst h10; rw [if_pos rfl]; exact charP_esc 110 X (by decide)
      · rw [if_neg h10]
        by_cases h13 : c = 13
        · subst h13; rw [if_pos rfl]; exact charP_esc 114 X (by decide)
        · rw [if_neg h13]
          by_cases h9 : c = 9
          · subst h9; rw [if_pos rfl]; exact charP_esc 116 X (by decide)
          · rw [if_neg h9]
            have e : ([92, 117, 48, 48, hexd (c / 16), hexd (c % 16)] : List UInt8) ++ X = 92 :: 117 :: ([48, 48, hexd (c / 16), hexd (c % 16)] ++ X) := rfl
            rw [e, charP, if_neg (by decide), if_neg (by decide), escP, if_pos rfl, unitsP]
            have e2 : (92 :: 117 :: ([48, 48, hexd (c / 16), hexd (c % 16)] ++ X) : List UInt8).drop 2 = [48, 48, hexd (c / 16), hexd (c % 16)] ++ X := rfl
            rw [e2, unitP_append _ X (by simp), ctl_unit ⟨c, hc⟩]
            rw [if_pos (.inl (show (c : Int) < 55296 by omega))]; rfl
theorem ctlB_head (c : Nat) : ∃ r, ctlB c = 92 :: r := by
  unfold ctlB
  (repeat' split) <;> exact ⟨_, rfl⟩
/-- a scalar's shortest form is read as it -/
theorem charP_back (c : Int) (X : List UInt8) (h : putL c ≠ []) : charP (escL 34 (putL c) ++ X) = (c, (escL 34 (putL c)).length) ∧ ∃ a r, escL 34 (putL c) = a :: r ∧ a ≠ 34 := by
  have hv : ¬ (c < 0 ∨ 1114111 < c ∨ 55296 ≤ c ∧ c ≤ 57343) := fun h' => h ((putL_none c).2 h')
  by_cases h128 : c < 128
  · rw [putL_low c (by omega) h128]
    obtain ⟨b, hb⟩ : ∃ b, UInt8.ofNat c.toNat = b := ⟨_, rfl⟩
    have hbc : (b.toNat : Int) = c := by rw [← hb, UInt8.toNat_ofNat']; omega
    rw [hb]
    have e0 : escL 34 [b] = escB 34 b := by simp [escL]
    rw [e0]
    unfold escB
    by_cases h1 : b = 34 ∨ b = 92
    · rw [if_pos h1]
      refine ⟨?_, 92, [b], rfl, by decide⟩
      show charP (92 :: b :: X) = _
      rw [charP_esc b X (by rcases h1 with rfl | rfl <;> decide), hbc]
      rcases h1 with rfl | rfl
      · rw [← hbc]; rfl
      · rw [← hbc]; rfl
    · rw [if_neg h1]
      by_cases h2 : b < 32
      · rw [if_pos h2]
        have h3 : b.toNat < 32 := UInt8.lt_iff_toNat_lt.1 h2
        obtain ⟨r, hr⟩ := ctlB_head b.toNat
        refine ⟨?_, 92, r, hr, by decide⟩
        rw [charP_ctl b.toNat h3 X, hbc]
      · rw [if_neg h2]
        refine ⟨?_, b, [], rfl, fun e => h1 (.inl e)⟩
        show charP (b :: X) = _
        rw [charP, if_neg (by rintro (e | e); exact h1 (.inl e); exact h2 e), if_pos (fun e => h1 (.inr e)), U_0 b X (by omega), hbc]
        rfl
  · have hh := putL_high c (by omega)
    rw [escL_high 34 (by decide) _ hh]
    obtain ⟨a, r, har⟩ := List.exists_cons_of_ne_nil h
    have ha : 128 ≤ a.toNat := hh a (by rw [har]; simp)
    have h34 : a ≠ 34 := by
      rintro rfl
      have : (34 : UInt8).toNat = 34 := rfl
      omega
    refine ⟨?_, a, r, har, h34⟩
    have hu := uscal_put c X h
    rw [har, List.cons_append] at hu ⊢
    have hlen : (a :: r).length ≠ 0 := by simp
    rw [charP, if_neg, if_pos, hu, if_neg hlen]
    · rintro rfl
      have : (92 : UInt8).toNat = 92 := rfl
      omega
    · rintro (e | e)
      · exact h34 e
      · have := UInt8.lt_iff_toNat_lt.1 e
        have e32 : (32 : UInt8).toNat = 32 := rfl
        omega
/-- the characters of a string -/
def chS : Nat → List UInt8 → List Int
  | 0, _ => []
  | f + 1, x => if x ≠ [] ∧ x.head? ≠ some 34 then (charP x).1 :: chS f (x.drop (charP x).2) else []
def putS : List Int → List UInt8
  | [] => []
  | c :: L => putL c ++ putS L
def textP : List (Int × Int) → List UInt8
  | [] => []
  | x :: L => putL x.1 ++ textP L
theorem evs_text (l : List UInt8) (f k : Nat) (h : okS f (l.drop k)) : textP (evs l f k) = putS (chS f (l.drop k)) := by
  induction f generalizing k with
  | zero => rfl
  | succ f ih =>
    have hcond : (k < l.length ∧ l[k]? ≠ some 34) ↔ (l.drop k ≠ [] ∧ (l.drop k).head? ≠ some 34) := by
      rw [List.head?_drop]
      constructor
      · rintro ⟨h1, h2⟩
        exact ⟨by intro e; have := congrArg List.length e; rw [List.length_drop] at this; simp at this; omega, h2⟩
      · rintro ⟨h1, h2⟩
        refine ⟨?_, h2⟩
        rcases Nat.lt_or_ge k l.length with h | h
        · exact h
        · exact absurd (List.drop_eq_nil_of_le h) h1
    rw [evs, chS]
    rw [okS] at h
    by_cases hk : k < l.length ∧ l[k]? ≠ some 34
    · have hk' := hcond.1 hk
      rw [if_pos hk'] at h
      rw [if_pos hk, if_pos hk', if_neg h.1]
      have h2 := h.2
      rw [List.drop_drop] at h2
      rw [textP, putS, ih _ h2, List.drop_drop]
    · have hk' : ¬ (l.drop k ≠ [] ∧ (l.drop k).head? ≠ some 34) := fun h' => hk (hcond.2 h')
      rw [if_neg hk'] at h
      rw [List.length_drop] at h
      rw [if_neg hk, if_neg hk', if_pos (by omega)]; rfl
theorem uright_two {l k : List UInt8} (hl : uright l = true) (hk : uright k = true) : uright (l ++ k) = true := by
  unfold uright at *
  rw [beq_iff_eq] at *
  rw [urun_append, hl, hk]
/-- of whatever string: the text is well formed, and its shortest string is no longer -/
theorem back_len (f : Nat) (x : List UInt8) (h : okS f x) (hf : x.length < f) : uright (putS (chS f x)) = true ∧ (escL 34 (putS (chS f x))).length + 1 ≤ x.length := by
  induction f generalizing x with
  | zero => omega
  | succ f ih =>
    rw [okS] at h
    rw [chS]
    by_cases hx : x ≠ [] ∧ x.head? ≠ some 34
    · rw [if_pos hx] at h ⊢
      obtain ⟨c, m, hcm⟩ : ∃ c m, charP x = (c, m) := ⟨_, _, rfl⟩
      rw [hcm] at h ⊢
      have hlen := (charP_len x c m hcm (uscal_le x)).2 h.1
      obtain ⟨h1, h2⟩ := char_back x c m hcm h.1
      obtain ⟨i1, i2⟩ := ih (x.drop m) h.2 (by rw [List.length_drop]; omega)
      rw [List.length_drop] at i2
      refine ⟨uright_two (put_right c h1) i1, ?_⟩
      show (escL 34 (putL c ++ putS (chS f (x.drop m)))).length + 1 ≤ x.length
      rw [escL_append, List.length_append]; omega
    · rw [if_neg hx] at h ⊢
      refine ⟨rfl, ?_⟩
      rw [h]; simp [putS, escL]
/-- of whatever well formed bytes: their shortest string is a string, and has them -/
theorem right_esc (n : Nat) (s : List UInt8) (hn : s.length ≤ n) (hu : uright s = true) (f : Nat) (hf : (escL 34 s).length + 1 < f) : okS f (escL 34 s ++ [34]) ∧ putS (chS f (escL 34 s ++ [34])) = s := by
  induction n generalizing s f with
  | zero =>
    have : s = [] := List.eq_nil_of_length_eq_zero (by omega)
    subst this
    obtain ⟨f, rfl⟩ : ∃ k, f = k + 1 := ⟨f - 1, by omega⟩
    refine ⟨?_, ?_⟩
    · rw [okS, if_neg (by simp [escL])]; simp [escL]
    · rw [chS, if_neg (by simp [escL])]; rfl
  | succ n ih =>
    obtain ⟨f, rfl⟩ : ∃ k, f = k + 1 := ⟨f - 1, by omega⟩
    by_cases hs : s = []
    · subst hs
      refine ⟨?_, ?_⟩
      · rw [okS, if_neg (by simp [escL])]; simp [escL]
      · rw [chS, if_neg (by simp [escL])]; rfl
    · have hpos : 0 < s.length := List.length_pos_iff.2 hs
      have hm : (uscal s).2 ≠ 0 := by
        intro h0
        have := uscal_none s h0 s.length hpos (Nat.le_refl _)
        rw [List.take_length] at this
        unfold uright at hu
        rw [beq_iff_eq] at hu
        exact this hu
      obtain ⟨c, m, hcm⟩ : ∃ c m, uscal s = (c, m) := ⟨_, _, rfl⟩
      have hp := uscal_is s hm
      have hsm := uscal_some s hm
      rw [hcm] at hp hm hsm
      simp only at hp hm hsm
      have hne : putL c ≠ [] := by
        rw [hp]; intro e; have := congrArg List.length e; rw [List.length_take, List.length_nil] at this; omega
      have hsplit : s = putL c ++ s.drop m := by rw [hp, List.take_append_drop]
      have hu2 : uright (s.drop m) = true := by
        unfold uright at hu ⊢
        rw [beq_iff_eq] at hu ⊢
        have := urun_append 0 (s.take m) (s.drop m)
        rw [List.take_append_drop, hsm.2.1] at this
        rw [← this]; exact hu
      have hE : escL 34 s = escL 34 (putL c) ++ escL 34 (s.drop m) := by
        conv => lhs; rw [hsplit]
        exact escL_append _ _ _
      obtain ⟨hc1, a, r, har, ha⟩ := charP_back c (escL 34 (s.drop m) ++ [34]) hne
      have hx : escL 34 s ++ [34] = escL 34 (putL c) ++ (escL 34 (s.drop m) ++ [34]) := by rw [hE, List.append_assoc]
      have hcond : escL 34 s ++ [34] ≠ [] ∧ (escL 34 s ++ [34]).head? ≠ some 34 := by
        rw [hx, har]
        exact ⟨by simp, by simpa using ha⟩
      have hcn : c ≠ -1 := by
        rintro rfl
        exact hne ((putL_none (-1)).2 (.inl (by decide)))
      have hdrop : (escL 34 s ++ [34]).drop (escL 34 (putL c)).length = escL 34 (s.drop m) ++ [34] := by rw [hx, List.drop_left' rfl]
      have hlenE : 1 ≤ (escL 34 (putL c)).length := by rw [har]; simp
      obtain ⟨i1, i2⟩ := ih (s.drop m) (by rw [List.length_drop]; omega) hu2 f (by rw [hE, List.length_append] at hf; omega)
      refine ⟨?_, ?_⟩
      · rw [okS, if_pos hcond]
        rw [hx, hc1, ← hx]
        exact ⟨hcn, by rw [hdrop]; exact i1⟩
      · rw [chS, if_pos hcond]
        rw [hx, hc1, ← hx, hdrop, putS, i2]
        exact hsplit.symm
/-- the shortest string is a string and has its text -/
theorem quote_ok (s : List UInt8) (hu : uright s = true) : OkL (betL 34 s) ∧ textP (charsL (betL 34 s)) = s := by
  have e0 : (betL 34 s)[0]? = some 34 := by simp [betL]
  have e1 : (betL 34 s).drop 1 = escL 34 s ++ [34] := by simp [betL]
  have el : (betL 34 s).length + 1 = (escL 34 s).length + 3 := by simp [betL]
  obtain ⟨h1, h2⟩ := right_esc s.length s (Nat.le_refl _) hu ((betL 34 s).length + 1) (by omega)
  refine ⟨(ok_iff _).2 ⟨e0, by rw [e1]; exact h1⟩, ?_⟩
  rw [charsL, if_pos e0, evs_text _ _ _ (by rw [e1]; exact h1), e1]
  exact h2
/-- a string's text is well formed, and its shortest string is no longer -/
theorem text_ok (s : List UInt8) (h : OkL s) : uright (textP (charsL s)) = true ∧ (betL 34 (textP (charsL s))).length ≤ s.length := by
  have h' := (ok_iff s).1 h
  have hl : 1 ≤ s.length := by
    rcases Nat.lt_or_ge 0 s.length with h1 | h1
    · exact h1
    · rw [List.getElem?_eq_none h1] at h'; exact absurd h'.1 (by simp)
  rw [charsL, if_pos h'.1, evs_text _ _ _ h'.2]
  obtain ⟨h1, h2⟩ := back_len _ _ h'.2 (by rw [List.length_drop]; omega)
  rw [List.length_drop] at h2
  refine ⟨h1, ?_⟩
  simp only [betL, List.length_append, List.length_cons, List.length_nil]; omega
end Go.Proofs.Le
