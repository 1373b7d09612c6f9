/- TopText: walks and plain laws, part 6: lemmas on what the functions that the law comes to compute. -/
import Derived.Test.YtjelneeeijjpiaaGreatDoorG05
import Derived.Test.YtjelneeeijjpiaaGreatDoorProg
import Derived.WalkKit
import Derived.Below
import Derived.Lib.Hide
import Derived.Outline
import Derived.IntWalk
import Derived.Deep.LoopGhost
import Derived.Deep.Light
import Derived.Handy
import Derived.KernelRfl
import Derived.OwnWalk
import Derived.Scope
import Derived.ScopeJumps
import Derived.Laws.ComplexArith
import Derived.Laws.FloatArith
set_option linter.unusedVariables false
set_option linter.unusedSimpArgs false
section
namespace Go.Proofs.Le
open Go.Proofs.Lw
theorem ctl_unit : ∀ c : Fin 32, unitP [48, 48, hexd (c.1 / 16), hexd (c.1 % 16)] = (c.1 : Int) := by decide
theorem charP_esc (b : UInt8) (X : List UInt8) (hb : b ≠ 117) : charP (92 :: b :: X) = (simpleP b.toNat, 2) := by
  rw [charP, if_neg (by decide), if_neg (by decide), escP, if_neg hb]
theorem charP_ctl (c : Nat) (hc : c < 32) (X : List UInt8) : charP (ctlB c ++ X) = ((c : Int), (ctlB c).length) := by
  unfold ctlB
  by_cases h8 : c = 8
  · subst h8; rw [if_pos rfl]; exact charP_esc 98 X (by decide)
  · rw [if_neg h8]
    by_cases h12 : c = 12
    · subst h12; rw [if_pos rfl]; exact charP_esc 102 X (by decide)
    · rw [if_neg h12]
      by_cases h10 : c = 10
      · subst h10; rw [if_pos rfl]; exact charP_esc 110 X (by decide)
      · rw [if_neg h10]
        by_cases h13 : c = 13
        · subst h13; rw [if_pos rfl]; exact charP_esc 114 X (by decide)
        · rw [if_neg h13]
          by_cases h9 : c = 9
          · subst h9; rw [if_pos rfl]; exact charP_esc 116 X (by decide)
          · rw [if_neg h9]
            have e : ([92, 117, 48, 48, hexd (c / 16), hexd (c % 16)] : List UInt8) ++ X = 92 :: 117 :: ([48, 48, hexd (c / 16), hexd (c % 16)] ++ X) := rfl
            rw [e, charP, if_neg (by decide), if_neg (by decide), escP, if_pos rfl, unitsP]
            have e2 : (92 :: 117 :: ([48, 48, hexd (c / 16), hexd (c % 16)] ++ X) : List UInt8).drop 2 = [48, 48, hexd (c / 16), hexd (c % 16)] ++ X := rfl
            rw [e2, unitP_append _ X (by simp), ctl_unit ⟨c, hc⟩]
            rw [if_pos (.inl (show (c : Int) < 55296 by omega))]; rfl
theorem ctlB_head (c : Nat) : ∃ r, ctlB c = 92 :: r := by
  unfold ctlB
  (repeat' split) <;> exact ⟨_, rfl⟩
theorem charP_back (c : Int) (X : List UInt8) (h : putL c ≠ []) : charP (escL 34 (putL c) ++ X) = (c, (escL 34 (putL c)).length) ∧ ∃ a r, escL 34 (putL c) = a :: r ∧ a ≠ 34 := by
  have hv : ¬ (c < 0 ∨ 1114111 < c ∨ 55296 ≤ c ∧ c ≤ 57343) := fun h' => h ((putL_none c).2 h')
  by_cases h128 : c < 128
  · rw [putL_low c (by omega) h128]
    obtain ⟨b, hb⟩ : ∃ b, UInt8.ofNat c.toNat = b := ⟨_, rfl⟩
    have hbc : (b.toNat : Int) = c := by rw [← hb, UInt8.toNat_ofNat']; omega
    rw [hb]
    have e0 : escL 34 [b] = escB 34 b := by simp [escL]
    rw [e0]
    unfold escB
    by_cases h1 : b = 34 ∨ b = 92
    · rw [if_pos h1]
      refine ⟨?_, 92, [b], rfl, by decide⟩
      show charP (92 :: b :: X) = _
      rw [charP_esc b X (by rcases h1 with rfl | rfl <;> decide), hbc]
      rcases h1 with rfl | rfl
      · rw [← hbc]; rfl
      · rw [← hbc]; rfl
    · rw [if_neg h1]
      by_cases h2 : b < 32
      · rw [if_pos h2]
        have h3 : b.toNat < 32 := UInt8.lt_iff_toNat_lt.1 h2
        obtain ⟨r, hr⟩ := ctlB_head b.toNat
        refine ⟨?_, 92, r, hr, by decide⟩
        rw [charP_ctl b.toNat h3 X, hbc]
      · rw [if_neg h2]
        refine ⟨?_, b, [], rfl, fun e => h1 (.inl e)⟩
        show charP (b :: X) = _
        rw [charP, if_neg (by rintro (e | e); exact h1 (.inl e); exact h2 e), if_pos (fun e => h1 (.inr e)), U_0 b X (by omega), hbc]
        rfl
  · have hh := putL_high c (by omega)
    rw [escL_high 34 (by decide) _ hh]
    obtain ⟨a, r, har⟩ := List.exists_cons_of_ne_nil h
    have ha : 128 ≤ a.toNat := hh a (by rw [har]; simp)
    have h34 : a ≠ 34 := by
      rintro rfl
      have : (34 : UInt8).toNat = 34 := rfl
      omega
    refine ⟨?_, a, r, har, h34⟩
    have hu := uscal_put c X h
    rw [har, List.cons_append] at hu ⊢
    have hlen : (a :: r).length ≠ 0 := by simp
    rw [charP, if_neg, if_pos, hu, if_neg hlen]
    · rintro rfl
      have : (92 : UInt8).toNat = 92 := rfl
      omega
    · rintro (e | e)
      · exact h34 e
      · have := UInt8.lt_iff_toNat_lt.1 e
        have e32 : (32 : UInt8).toNat = 32 := rfl
        omega
def chS : Nat → List UInt8 → List Int
  | 0, _ => []
  | f + 1, x => if x ≠ [] ∧ x.head? ≠ some 34 then (charP x).1 :: chS f (x.drop (charP x).2) else []
def putS : List Int → List UInt8
  | [] => []
  | c :: L => putL c ++ putS L
def textP : List (Int × Int) → List UInt8
  | [] => []
  | x :: L => putL x.1 ++ textP L
theorem evs_text (l : List UInt8) (f k : Nat) (h : okS f (l.drop k)) : textP (evs l f k) = putS (chS f (l.drop k)) := by
  induction f generalizing k with
  | zero => rfl
  | succ f ih =>
    have hcond : (k < l.length ∧ l[k]? ≠ some 34) ↔ (l.drop k ≠ [] ∧ (l.drop k).head? ≠ some 34) := by
      rw [List.head?_drop]
      constructor
      · rintro ⟨h1, h2⟩
        exact ⟨by intro e; have := congrArg List.length e; rw [List.length_drop] at this; simp at this; omega, h2⟩
      · rintro ⟨h1, h2⟩
        refine ⟨?_, h2⟩
        rcases Nat.lt_or_ge k l.length with h | h
        · exact h
        · exact absurd (List.drop_eq_nil_of_le h) h1
    rw [evs, chS]
    rw [okS] at h
    by_cases hk : k < l.length ∧ l[k]? ≠ some 34
    · have hk' := hcond.1 hk
      rw [if_pos hk'] at h
      rw [if_pos hk, if_pos hk', if_neg h.1]
      have h2 := h.2
      rw [List.drop_drop] at h2
      rw [textP, putS, ih _ h2, List.drop_drop]
    · have hk' : ¬ (l.drop k ≠ [] ∧ (l.drop k).head? ≠ some 34) := fun h' => hk (hcond.2 h')
      rw [if_neg hk'] at h
      rw [List.length_drop] at h
      rw [if_neg hk, if_neg hk', if_pos (by omega)]; rfl
theorem right_esc (n : Nat) (s : List UInt8) (hn : s.length ≤ n) (hu : uright s = true) (f : Nat) (hf : (escL 34 s).length + 1 < f) : okS f (escL 34 s ++ [34]) ∧ putS (chS f (escL 34 s ++ [34])) = s := by
  induction n generalizing s f with
  | zero =>
    have : s = [] := List.eq_nil_of_length_eq_zero (by omega)
    subst this
    obtain ⟨f, rfl⟩ : ∃ k, f = k + 1 := ⟨f - 1, by omega⟩
    refine ⟨?_, ?_⟩
    · rw [okS, if_neg (by simp [escL])]; simp [escL]
    · rw [chS, if_neg (by simp [escL])]; rfl
  | succ n ih =>
    obtain ⟨f, rfl⟩ : ∃ k, f = k + 1 := ⟨f - 1, by omega⟩
    by_cases hs : s = []
    · subst hs
      refine ⟨?_, ?_⟩
      · rw [okS, if_neg (by simp [escL])]; simp [escL]
      · rw [chS, if_neg (by simp [escL])]; rfl
    · have hpos : 0 < s.length := List.length_pos_iff.2 hs
      have hm : (uscal s).2 ≠ 0 := by
        intro h0
        have := uscal_none s h0 s.length hpos (Nat.le_refl _)
        rw [List.take_length] at this
        unfold uright at hu
        rw [beq_iff_eq] at hu
        exact this hu
      obtain ⟨c, m, hcm⟩ : ∃ c m, uscal s = (c, m) := ⟨_, _, rfl⟩
      have hp := uscal_is s hm
      have hsm := uscal_some s hm
      rw [hcm] at hp hm hsm
      simp only at hp hm hsm
      have hne : putL c ≠ [] := by
        rw [hp]; intro e; have := congrArg List.length e; rw [List.length_take, List.length_nil] at this; omega
      have hsplit : s = putL c ++ s.drop m := by rw [hp, List.take_append_drop]
      have hu2 : uright (s.drop m) = true := by
        unfold uright at hu ⊢
        rw [beq_iff_eq] at hu ⊢
        have := urun_append 0 (s.take m) (s.drop m)
        rw [List.take_append_drop, hsm.2.1] at this
        rw [← this]; exact hu
      have hE : escL 34 s = escL 34 (putL c) ++ escL 34 (s.drop m) := by
        conv => lhs; rw [hsplit]
        exact escL_append _ _ _
      obtain ⟨hc1, a, r, har, ha⟩ := charP_back c (escL 34 (s.drop m) ++ [34]) hne
      have hx : escL 34 s ++ [34] = escL 34 (putL c) ++ (escL 34 (s.drop m) ++ [34]) := by rw [hE, List.append_assoc]
      have hcond : escL 34 s ++ [34] ≠ [] ∧ (escL 34 s ++ [34]).head? ≠ some 34 := by
        rw [hx, har]
        exact ⟨by simp, by simpa using ha⟩
      have hcn : c ≠ -1 := by
        rintro rfl
        exact hne ((putL_none (-1)).2 (.inl (by decide)))
      have hdrop : (escL 34 s ++ [34]).drop (escL 34 (putL c)).length = escL 34 (s.drop m) ++ [34] := by rw [hx, List.drop_left' rfl]
      have hlenE : 1 ≤ (escL 34 (putL c)).length := by rw [har]; simp
      obtain ⟨i1, i2⟩ := ih (s.drop m) (by rw [List.length_drop]; omega) hu2 f (by rw [hE, List.length_append] at hf; omega)
      refine ⟨?_, ?_⟩
      · rw [okS, if_pos hcond]
        rw [hx, hc1, ← hx]
        exact ⟨hcn, by rw [hdrop]; exact i1⟩
      · rw [chS, if_pos hcond]
        rw [hx, hc1, ← hx, hdrop, putS, i2]
        exact hsplit.symm
theorem quote_ok (s : List UInt8) (hu : uright s = true) : OkL (betL 34 s) ∧ textP (charsL (betL 34 s)) = s := by
  have e0 : (betL 34 s)[0]? = some 34 := by simp [betL]
  have e1 : (betL 34 s).drop 1 = escL 34 s ++ [34] := by simp [betL]
  have el : (betL 34 s).length + 1 = (escL 34 s).length + 3 := by simp [betL]
  obtain ⟨h1, h2⟩ := right_esc s.length s (Nat.le_refl _) hu ((betL 34 s).length + 1) (by omega)
  refine ⟨(ok_iff _).2 ⟨e0, by rw [e1]; exact h1⟩, ?_⟩
  rw [charsL, if_pos e0, evs_text _ _ _ (by rw [e1]; exact h1), e1]
  exact h2
end Go.Proofs.Le
end
section
namespace Go.Proofs.Le
open Go.Proofs.Lw
def rA : Nat → List UInt8 → List Int → Option (List Int)
  | 0, _, _ => none
  | f + 1, x, acc =>
    if x = [] then some acc
    else if x.head? = some 34 then none
    else if (charP (x ++ [34])).1 = -1 ∨ x.length < (charP (x ++ [34])).2 then none
    else rA f (x.drop (charP (x ++ [34])).2) (acc ++ [(charP (x ++ [34])).1])
theorem okS_in {f : Nat} {x : List UInt8} (h : x ≠ [] ∧ x.head? ≠ some 34) : okS (f + 1) x = ((charP x).1 ≠ -1 ∧ okS f (x.drop (charP x).2)) := by rw [okS, if_pos h]
theorem okS_out {f : Nat} {x : List UInt8} (h : ¬ (x ≠ [] ∧ x.head? ≠ some 34)) : okS (f + 1) x = (x.length = 1) := by rw [okS, if_neg h]
theorem chS_in {f : Nat} {x : List UInt8} (h : x ≠ [] ∧ x.head? ≠ some 34) : chS (f + 1) x = (charP x).1 :: chS f (x.drop (charP x).2) := by rw [chS, if_pos h]
theorem chS_out {f : Nat} {x : List UInt8} (h : ¬ (x ≠ [] ∧ x.head? ≠ some 34)) : chS (f + 1) x = [] := by rw [chS, if_neg h]
theorem take2 (x : List UInt8) (h : lowP x ≠ -1) : ∃ r, x = 92 :: 117 :: r := by
  unfold lowP at h
  split at h
  · rename_i e
    rcases x with _ | ⟨a, _ | ⟨b, r⟩⟩
    · simp at e
    · simp at e
    · simp at e; exact ⟨r, by rw [e.1, e.2]⟩
  · exact absurd rfl h
end Go.Proofs.Le
end
section
namespace Go.Proofs.Le
open Go.Proofs.Lw
def SimB (c : UInt8) : Prop := c = 34 ∨ c = 92 ∨ c = 47 ∨ c = 98 ∨ c = 102 ∨ c = 110 ∨ c = 114 ∨ c = 116
def HexB (c : UInt8) : Prop := 48 ≤ c.toNat ∧ c.toNat ≤ 57 ∨ 97 ≤ c.toNat ∧ c.toNat ≤ 102 ∨ 65 ≤ c.toNat ∧ c.toNat ≤ 70
inductive Sx : Int → List UInt8 → Prop
  | mark : Sx 0 [34]
  | esc (c : UInt8) (l : List UInt8) : SimB c → Sx 0 l → Sx 0 (92 :: c :: l)
  | uni (a b c d : UInt8) (l : List UInt8) : HexB a → HexB b → HexB c → HexB d → Sx 0 l → Sx 0 (92 :: 117 :: a :: b :: c :: d :: l)
  | byte (st : Int) (c : UInt8) (l : List UInt8) : (st = 0 → 32 ≤ c.toNat ∧ c ≠ 34 ∧ c ≠ 92) → ustep st c.toNat ≠ 8 → Sx (ustep st c.toNat) l → Sx st (c :: l)
theorem ustep_hi (st : Int) (c : UInt8) (h0 : st ≠ 0) (h : ustep st c.toNat ≠ 8) : 128 ≤ c.toNat := by
  unfold ustep at h
  rw [if_neg h0] at h
  split at h
  · exact absurd rfl h
  · rename_i h2
    have : 128 ≤ ulow st := by unfold ulow; (repeat' split) <;> omega
    omega
theorem sx_ge {st : Int} {l : List UInt8} (h : Sx st l) : ∀ b ∈ l, 32 ≤ b.toNat := by
  induction h with
  | mark => intro b hb; simp at hb; subst hb; decide
  | esc c l hc _ ih =>
    intro b hb
    simp only [List.mem_cons] at hb
    rcases hb with rfl | rfl | hb
    · decide
    · rcases hc with rfl | rfl | rfl | rfl | rfl | rfl | rfl | rfl <;> decide
    · exact ih b hb
  | uni a b c d l ha hb' hc hd _ ih =>
    intro x hx
    simp only [List.mem_cons] at hx
    rcases hx with rfl | rfl | rfl | rfl | rfl | rfl | hx
    · decide
    · decide
    · unfold HexB at ha; omega
    · unfold HexB at hb'; omega
    · unfold HexB at hc; omega
    · unfold HexB at hd; omega
    · exact ih x hx
  | byte st c l h0 h8 _ ih =>
    intro x hx
    simp only [List.mem_cons] at hx
    rcases hx with rfl | hx
    · by_cases hs : st = 0
      · exact (h0 hs).1
      · have := ustep_hi st x hs h8; omega
    · exact ih x hx
theorem sx_bytes (p z : List UInt8) (st : Int) (hl : Lives st p) (hr : urun st p = 0) (hz : Sx 0 z) (h0 : st = 0 → ∀ c r, p = c :: r → 32 ≤ c.toNat ∧ c ≠ 34 ∧ c ≠ 92) (hi : ∀ j, 0 < j → j < p.length → urun st (p.take j) ≠ 0) : Sx st (p ++ z) := by
  induction p generalizing st with
  | nil => rw [urun] at hr; subst hr; exact hz
  | cons c p ih =>
    rw [List.cons_append]
    obtain ⟨l1, l2⟩ := hl
    refine Sx.byte st c (p ++ z) (fun e => h0 e c p rfl) l1 ?_
    refine ih _ l2 hr ?_ ?_
    · intro e c' r' hp
      subst hp
      have := hi 1 (by omega) (by simp)
      rw [List.take_succ_cons, List.take_zero, urun, urun] at this
      exact absurd e this
    · intro j hj0 hj
      have := hi (j + 1) (by omega) (by simp only [List.length_cons]; omega)
      rw [List.take_succ_cons, urun] at this
      exact this
theorem hexP_hexB (c : UInt8) (h : ¬ hexP c.toNat < 0) : HexB c := by
  unfold hexP at h
  unfold HexB
  revert h; (repeat' split) <;> omega
theorem unitA_hex (l : List UInt8) (n : Int) (h0 : 0 ≤ n) (h : unitA n l ≠ -1) : ∀ c ∈ l, HexB c := by
  induction l generalizing n with
  | nil => simp
  | cons b l ih =>
    rw [unitA] at h
    split at h
    · exact absurd rfl h
    · rename_i hb
      intro c hc
      simp only [List.mem_cons] at hc
      rcases hc with rfl | hc
      · exact hexP_hexB _ hb
      · exact ih _ (by omega) h c hc
theorem unitP_hex (l : List UInt8) (h : unitP l ≠ -1) : ∃ a b c d r, l = a :: b :: c :: d :: r ∧ HexB a ∧ HexB b ∧ HexB c ∧ HexB d := by
  have h4 := unitP_long' l h
  rcases l with _ | ⟨a, _ | ⟨b, _ | ⟨c, _ | ⟨d, r⟩⟩⟩⟩
  · simp at h4
  · simp at h4
  · simp at h4
  · simp at h4
  · unfold unitP at h
    rw [if_neg (by simp)] at h
    have := unitA_hex _ 0 (by omega) h
    exact ⟨a, b, c, d, r, rfl, this a (by simp), this b (by simp), this c (by simp), this d (by simp)⟩
theorem lowP_hex (l : List UInt8) (h : lowP l ≠ -1) : ∃ a b c d r, l = 92 :: 117 :: a :: b :: c :: d :: r ∧ HexB a ∧ HexB b ∧ HexB c ∧ HexB d := by
  obtain ⟨r, rfl⟩ := take2 l h
  unfold lowP at h
  rw [if_pos (by simp)] at h
  obtain ⟨a, b, c, d, r', e, h1⟩ := unitP_hex _ h
  simp at e
  exact ⟨a, b, c, d, r', by rw [e], h1⟩
theorem simple_is (c : UInt8) (h : simpleP c.toNat ≠ -1) : SimB c := by
  have : ∀ n : Nat, n < 256 → (simpleP n ≠ -1 → SimB (UInt8.ofNat n)) := by
    intro n hn hs
    unfold simpleP at hs
    unfold SimB
    have : n = 34 ∨ n = 92 ∨ n = 47 ∨ n = 98 ∨ n = 102 ∨ n = 110 ∨ n = 114 ∨ n = 116 := by revert hs; (repeat' split) <;> omega
    rcases this with rfl | rfl | rfl | rfl | rfl | rfl | rfl | rfl <;> decide
  have h2 := this c.toNat c.toNat_lt h
  rwa [UInt8.ofNat_toNat] at h2
theorem sx_of_ok (f : Nat) (x : List UInt8) (hf : x.length < f) (h : okS f x) : Sx 0 x := by
  induction f using Nat.strongRecOn generalizing x with
  | ind f ih =>
    obtain ⟨f, rfl⟩ : ∃ g, f = g + 1 := ⟨f - 1, by omega⟩
    by_cases hc : x ≠ [] ∧ x.head? ≠ some 34
    · rw [okS_in hc] at h
      obtain ⟨c, m, hcm⟩ : ∃ c m, charP x = (c, m) := ⟨_, _, rfl⟩
      rw [hcm] at h
      simp only at h
      have hm := (charP_len x c m hcm (uscal_le _)).2 h.1
      have hrest : Sx 0 (x.drop m) := ih f (by omega) _ (by rw [List.length_drop]; omega) h.2
      obtain ⟨a, r, rfl⟩ := List.exists_cons_of_ne_nil hc.1
      have hne34 : a ≠ 34 := by simpa using hc.2
      have hx := hcm
      rw [charP] at hx
      by_cases hlow : a = 34 ∨ a < 32
      · rw [if_pos hlow] at hx; injection hx with h1 _; exact absurd h1.symm h.1
      · rw [if_neg hlow] at hx
        by_cases h92 : a = 92
        · subst h92
          rw [if_neg (by simp)] at hx
          rcases r with _ | ⟨b, r⟩
          · rw [escP] at hx; injection hx with h1 _; exact absurd h1.symm h.1
          · by_cases hb : b = 117
            · subst hb
              rw [escP, if_pos rfl, unitsP] at hx
              have hd : (92 :: 117 :: r : List UInt8).drop 2 = r := rfl
              rw [hd] at hx
              have hu : unitP r ≠ -1 := by
                intro e
                rw [e, if_pos (.inl (by omega))] at hx
                injection hx with h1 _; exact h.1 h1.symm
              obtain ⟨a1, b1, c1, d1, r1, rfl, x1, x2, x3, x4⟩ := unitP_hex r hu
              by_cases k1 : unitP (a1 :: b1 :: c1 :: d1 :: r1) < 55296 ∨ 57343 < unitP (a1 :: b1 :: c1 :: d1 :: r1)
              · rw [if_pos k1] at hx; injection hx with _ h2; subst h2
                exact Sx.uni _ _ _ _ _ x1 x2 x3 x4 hrest
              · rw [if_neg k1] at hx
                by_cases k2 : unitP (a1 :: b1 :: c1 :: d1 :: r1) < 56320 ∧ 56320 ≤ lowP ((92 :: 117 :: a1 :: b1 :: c1 :: d1 :: r1 : List UInt8).drop 6) ∧ lowP ((92 :: 117 :: a1 :: b1 :: c1 :: d1 :: r1 : List UInt8).drop 6) ≤ 57343
                · rw [if_pos k2] at hx; injection hx with _ h2; subst h2
                  obtain ⟨a2, b2, c2, d2, r2, e2, y1, y2, y3, y4⟩ := lowP_hex r1 (by
                    have := k2.2.1
                    have e : (92 :: 117 :: a1 :: b1 :: c1 :: d1 :: r1 : List UInt8).drop 6 = r1 := rfl
                    rw [e] at this; omega)
                  subst e2
                  exact Sx.uni _ _ _ _ _ x1 x2 x3 x4 (Sx.uni _ _ _ _ _ y1 y2 y3 y4 hrest)
                · rw [if_neg k2] at hx; injection hx with _ h2; subst h2
                  exact Sx.uni _ _ _ _ _ x1 x2 x3 x4 hrest
            · have e := charP_esc b r hb
              rw [e] at hcm
              injection hcm with h1 h2
              subst h2
              exact Sx.esc b r (simple_is b (by rw [h1]; exact h.1)) hrest
        · rw [if_pos h92] at hx
          injection hx with h1 h2
          have hn : (uscal (a :: r)).2 ≠ 0 := by omega
          obtain ⟨q1, q2, q3⟩ := uscal_some _ hn
          rw [h2] at q1 q2 q3
          rw [← List.take_append_drop m (a :: r)]
          refine sx_bytes _ _ 0 (run_zero_lives _ _ q2) q2 hrest ?_ ?_
          · intro _ c' r' hp
            obtain ⟨m, rfl⟩ : ∃ k, m = k + 1 := ⟨m - 1, by omega⟩
            rw [List.take_succ_cons] at hp
            injection hp with hp _
            subst hp
            refine ⟨?_, hne34, h92⟩
            have : ¬ a < 32 := fun h' => hlow (.inr h')
            rw [UInt8.lt_iff_toNat_lt] at this
            have e32 : (32 : UInt8).toNat = 32 := rfl
            omega
          · intro j hj0 hj
            rw [List.length_take] at hj
            rw [List.take_take, Nat.min_eq_left (by omega)]
            exact q3 j hj0 (by omega)
    · rw [okS_out hc] at h
      obtain ⟨a, rfl⟩ := List.length_eq_one_iff.1 h
      by_cases ha : a = 34
      · subst ha; exact Sx.mark
      · exact absurd ⟨by simp, by simpa using ha⟩ hc
end Go.Proofs.Le
end
section
namespace Go.Proofs.Le
open Go.Proofs.Lw
def unB (c : Int) : List UInt8 := if 65535 < c then putL c else [92, 117, hexd (c / 4096).toNat, hexd (c / 256 % 16).toNat, hexd (c / 16 % 16).toNat, hexd (c % 16).toNat]
def unS : List Int → List UInt8
  | [] => []
  | c :: L => unB c ++ unS L
theorem unS_snoc (L : List Int) (c : Int) : unS (L ++ [c]) = unS L ++ unB c := by
  induction L with
  | nil => simp [unS]
  | cons a L ih => rw [List.cons_append, unS, unS, ih, List.append_assoc]
theorem putS_snoc' (L : List Int) (c : Int) : putS (L ++ [c]) = putS L ++ putL c := by
  induction L with
  | nil => simp [putS]
  | cons a L ih => rw [List.cons_append, putS, putS, ih, List.append_assoc]
theorem unB_len (c : Int) : (unB c).length ≤ 6 := by
  unfold unB
  split
  · exact Nat.le_trans (putL_len c) (by omega)
  · simp
theorem hexd_back : ∀ n : Fin 16, hexP (hexd n.1).toNat = (n.1 : Int) := by decide
theorem hexd_back' (n : Int) (h0 : 0 ≤ n) (h1 : n < 16) : hexP (hexd n.toNat).toNat = n := by
  have := hexd_back ⟨n.toNat, by omega⟩
  simp only at this
  rw [this]; omega
theorem unB_unit (c : Int) (h0 : 0 ≤ c) (h1 : c ≤ 65535) (X : List UInt8) : unitP ([hexd (c / 4096).toNat, hexd (c / 256 % 16).toNat, hexd (c / 16 % 16).toNat, hexd (c % 16).toNat] ++ X) = c := by
  rw [unitP_append _ _ (by simp), unitP, if_neg (by simp)]
  have e1 := hexd_back' (c / 4096) (by omega) (by omega)
  have e2 := hexd_back' (c / 256 % 16) (by omega) (by omega)
  have e3 := hexd_back' (c / 16 % 16) (by omega) (by omega)
  have e4 := hexd_back' (c % 16) (by omega) (by omega)
  show unitA 0 [_, _, _, _] = c
  rw [unitA, e1, if_neg (by omega), unitA, e2, if_neg (by omega), unitA, e3, if_neg (by omega), unitA, e4, if_neg (by omega), unitA]
  omega
theorem charP_un (c : Int) (X : List UInt8) (h : putL c ≠ []) : charP (unB c ++ X) = (c, (unB c).length) ∧ ∃ a r, unB c = a :: r ∧ a ≠ 34 := by
  have hn := fun h' => h ((putL_none c).2 h')
  unfold unB
  by_cases hc : 65535 < c
  · rw [if_pos hc]
    obtain ⟨a, r, e⟩ := List.exists_cons_of_ne_nil h
    have ha : 128 ≤ a.toNat := putL_high c (by omega) a (by rw [e]; simp)
    have hu := uscal_put c X h
    have h34 : a ≠ 34 := by rintro rfl; exact absurd ha (by decide)
    refine ⟨?_, a, r, e, h34⟩
    rw [e] at hu ⊢
    rw [List.cons_append, charP, if_neg, if_pos]
    · rw [List.cons_append] at hu
      rw [hu, if_neg]
      simp
    · rintro rfl; exact absurd ha (by decide)
    · rintro (e' | e')
      · exact h34 e'
      · rw [UInt8.lt_iff_toNat_lt] at e'
        have : (32 : UInt8).toNat = 32 := rfl
        omega
  · rw [if_neg hc]
    refine ⟨?_, 92, _, rfl, by decide⟩
    have hb : 0 ≤ c ∧ c ≤ 65535 ∧ (c < 55296 ∨ 57343 < c) := by
      refine ⟨?_, by omega, ?_⟩
      · rcases Int.lt_or_le c 0 with h' | h'
        · exact absurd (.inl h') hn
        · exact h'
      · rcases Int.lt_or_le c 55296 with h' | h'
        · exact .inl h'
        · rcases Int.lt_or_le 57343 c with h2 | h2
          · exact .inr h2
          · exact absurd (.inr (.inr ⟨h', h2⟩)) hn
    have hu := unB_unit c hb.1 hb.2.1 X
    simp only [List.cons_append, List.nil_append] at hu ⊢
    rw [charP, if_neg (by decide), if_neg (by decide), escP, if_pos rfl, unitsP]
    show (if unitP (_ :: _ :: _ :: _ :: X) < 55296 ∨ 57343 < unitP (_ :: _ :: _ :: _ :: X) then _ else _) = _
    rw [if_pos (by rw [hu]; exact hb.2.2)]
    show (unitP (_ :: _ :: _ :: _ :: X), 6) = _
    rw [hu]; rfl
theorem unS_ok (L : List Int) (hL : ∀ c ∈ L, putL c ≠ []) (f : Nat) (hf : (unS L).length + 1 < f) : okS f (unS L ++ [34]) ∧ chS f (unS L ++ [34]) = L := by
  induction L generalizing f with
  | nil =>
    obtain ⟨f, rfl⟩ : ∃ g, f = g + 1 := ⟨f - 1, by omega⟩
    have hn : ¬ (([] ++ [34] : List UInt8) ≠ [] ∧ ([] ++ [34] : List UInt8).head? ≠ some 34) := by simp
    rw [unS, okS_out hn, chS_out hn]; exact ⟨rfl, rfl⟩
  | cons c L ih =>
    obtain ⟨f, rfl⟩ : ∃ g, f = g + 1 := ⟨f - 1, by omega⟩
    obtain ⟨h1, a, r, h2, h3⟩ := charP_un c (unS L ++ [34]) (hL c (by simp))
    have hcond : unS (c :: L) ++ [34] ≠ [] ∧ (unS (c :: L) ++ [34]).head? ≠ some 34 := by
      rw [unS, h2]; exact ⟨by simp, by simpa using h3⟩
    rw [okS_in hcond, chS_in hcond, unS, List.append_assoc, h1]
    simp only
    rw [List.drop_left' rfl]
    have hlen : 1 ≤ (unB c).length := by rw [h2]; simp
    rw [unS, List.length_append] at hf
    obtain ⟨i1, i2⟩ := ih (fun x hx => hL x (by simp [hx])) f (by omega)
    refine ⟨⟨?_, i1⟩, by rw [i2]⟩
    intro e
    exact hL c (by simp) ((putL_none c).2 (.inl (by omega)))
theorem units_ok (L : List Int) (hL : ∀ c ∈ L, putL c ≠ []) : OkL ([34] ++ unS L ++ [34]) ∧ textP (charsL ([34] ++ unS L ++ [34])) = putS L := by
  have e0 : ([34] ++ unS L ++ [34] : List UInt8)[0]? = some 34 := by simp
  have e1 : ([34] ++ unS L ++ [34] : List UInt8).drop 1 = unS L ++ [34] := by simp
  have el : ([34] ++ unS L ++ [34] : List UInt8).length + 1 = (unS L).length + 3 := by simp
  obtain ⟨h1, h2⟩ := unS_ok L hL (([34] ++ unS L ++ [34] : List UInt8).length + 1) (by omega)
  refine ⟨(ok_iff _).2 ⟨e0, by rw [e1]; exact h1⟩, ?_⟩
  rw [charsL, if_pos e0, evs_text _ _ _ (by rw [e1]; exact h1), e1, h2]
end Go.Proofs.Le
end
section
namespace Go.Proofs.Le
open Go.Proofs.Lw
inductive Mx : List UInt8 → Prop
  | mark : Mx [34]
  | skip (c : UInt8) (l : List UInt8) : Mx l → Mx (92 :: c :: l)
  | byte (c : UInt8) (l : List UInt8) : c ≠ 34 → c ≠ 92 → Mx l → Mx (c :: l)
theorem hexB_not (c : UInt8) (h : HexB c) : c ≠ 34 ∧ c ≠ 92 := by
  unfold HexB at h
  refine ⟨?_, ?_⟩ <;> rintro rfl
  · have : (34 : UInt8).toNat = 34 := rfl
    omega
  · have : (92 : UInt8).toNat = 92 := rfl
    omega
theorem mx_of_sx {st : Int} {l : List UInt8} (h : Sx st l) : Mx l := by
  induction h with
  | mark => exact Mx.mark
  | esc c l _ _ ih => exact Mx.skip c l ih
  | uni a b c d l ha hb hc hd _ ih =>
    exact Mx.skip 117 _ (Mx.byte a _ (hexB_not a ha).1 (hexB_not a ha).2 (Mx.byte b _ (hexB_not b hb).1 (hexB_not b hb).2 (Mx.byte c _ (hexB_not c hc).1 (hexB_not c hc).2 (Mx.byte d _ (hexB_not d hd).1 (hexB_not d hd).2 ih))))
  | byte st c l h0 h8 _ ih =>
    by_cases hs : st = 0
    · exact Mx.byte c l (h0 hs).2.1 (h0 hs).2.2 ih
    · have := ustep_hi st c hs h8
      refine Mx.byte c l ?_ ?_ ih <;> rintro rfl
      · exact absurd this (by decide)
      · exact absurd this (by decide)
theorem str_parts (l : List UInt8) (h : OkL l) : ∃ x, l = 34 :: x ∧ Sx 0 x := by
  obtain ⟨h1, h2⟩ := (ok_iff l).1 h
  rcases l with _ | ⟨a, x⟩
  · simp at h1
  · simp at h1
    subst h1
    exact ⟨x, rfl, sx_of_ok _ x (by simp only [List.length_cons]; omega) h2⟩
theorem sx_last {st : Int} {l : List UInt8} (h : Sx st l) : ∃ y, l = y ++ [34] := by
  induction h with
  | mark => exact ⟨[], rfl⟩
  | esc c l _ _ ih => obtain ⟨y, rfl⟩ := ih; exact ⟨92 :: c :: y, rfl⟩
  | uni a b c d l _ _ _ _ _ ih => obtain ⟨y, rfl⟩ := ih; exact ⟨92 :: 117 :: a :: b :: c :: d :: y, rfl⟩
  | byte st c l _ _ _ ih => obtain ⟨y, rfl⟩ := ih; exact ⟨c :: y, rfl⟩
end Go.Proofs.Le
end
section
namespace Go.Proofs.YtjelneeeijjpiaaGreatDoor
open Go.RowKit
def pop (x : Nat) : Nat := x % 2 + x / 2 % 2 + x / 4 % 2 + x / 8 % 2 + x / 16 % 2 + x / 32 % 2 + x / 64 % 2 + x / 128 % 2
theorem ret_i64 {a b : Int} (h : a = b) : Ending.returned (.int .i64 a) = .returned (.int .i64 b) := by rw [h]
theorem ret_u64 {a b : Int} (h : a = b) : Ending.returned (.int .u64 a) = .returned (.int .u64 b) := by rw [h]
set_option maxRecDepth 100000 in
theorem ones64 (x : Nat) (hx : x < 256) (w : World) : Calls Tryz.prog 226 #[.int .u64 (x : Nat)] w fun e w' => e = .returned (.int .i64 (pop x : Nat)) ∧ w = w' := by
  go_enter Tryz.func226, Tryz.ntmps226
  go_wp2
  go_ret
  refine ⟨ret_i64 ?_, rfl⟩
  clear w
  revert x
  decide +kernel
set_option maxRecDepth 100000 in
theorem mask_any (n : Nat) (hn : n < 64) (w : World) : Calls Tryz.prog 166 #[.int .i64 (n : Nat)] w fun e w' => e = .returned (.int .u64 ((2 ^ n - 1 : Nat))) ∧ w = w' := by
  have h : (n : Int) < 64 := by omega
  go_enter Tryz.func166, Tryz.ntmps166
  go_wp2
  go_ret
  refine ⟨ret_u64 ?_, rfl⟩
  clear w h
  revert n
  decide +kernel
set_option maxRecDepth 100000 in
theorem ones_any (x n : Nat) (hx : x < 256) (hn : n < 9) (w : World) : Calls Tryz.prog 172 #[.int .u64 (x : Nat), .int .i64 (n : Nat)] w fun e w' => e = .returned (.int .i64 (pop (x % 2 ^ n) : Nat)) ∧ w = w' := by
  have h : (n : Int) < 64 := by omega
  go_enter Tryz.func172, Tryz.ntmps172
  go_wp2
  go_ret
  refine ⟨ret_i64 ?_, rfl⟩
  clear w h
  revert n
  revert x
  decide +kernel
end Go.Proofs.YtjelneeeijjpiaaGreatDoor
end
section
namespace Go.Proofs.YtjelneeeijjpiaaGreatDoor
open Go
def jumps (J : Nat → Act → World → Prop) (Q : Exit → Act → World → Prop) : Exit → Act → World → Prop
  | .goto l, a, w => J l a w
  | e, a, w => Q e a w
theorem wp_scope_labels {P : Program} {a : Act} {w : World} {Q : Exit → Act → World → Prop} {c : Code} (J : Nat → Nat → Act → World → Prop) (n0 : Nat)
    (first : c.wp P (jumps (fun l a' w' => ∃ m, m < n0 ∧ J m l a' w') Q) a w)
    (pass : ∀ n l a w, J n l a w → ∃ rest, findLabel c l = some rest ∧ rest.wp P (jumps (fun l' a' w' => ∃ m, m < n ∧ J m l' a' w') Q) a w) : (Code.scope c).wp P Q a w := by
  intro b k cs
  have hg : ∀ l r, findLabel c l = some r → gotoIn l (.inScope c :: k) = some (.code r :: .inScope c :: k) := by intro l r h; simp [gotoIn, h]
  have key : ∀ n l a w, J n l a w → ∃ r e a' w', findLabel c l = some r ∧ Q e a' w' ∧ Arrives P (lone (b.at a (.code r :: .inScope c :: k)) cs w) b k cs e a' w' := by
    intro n
    induction n using Nat.strongRecOn with
    | _ n ih =>
      intro l a w hJ
      obtain ⟨r, hr, hw⟩ := pass n l a w hJ
      obtain ⟨e, a₁, w₁, hq, harr⟩ := hw b (.inScope c :: k) cs
      cases e with
      | normal => exact ⟨r, .normal, a₁, w₁, hr, hq, Steps.trans harr (.one step_inScope)⟩
      | exit id => exact ⟨r, .exit id, a₁, w₁, hr, hq, fun k' hk => harr k' (by simp [exitTo, hk])⟩
      | goto l' =>
        obtain ⟨m, hm, hJ'⟩ := hq
        obtain ⟨r₂, e₂, a₂, w₂, hr₂, hq₂, harr₂⟩ := ih m hm l' a₁ w₁ hJ'
        exact ⟨r, e₂, a₂, w₂, hr, hq₂, .of_steps (harr _ (hg l' _ hr₂)) harr₂⟩
      | ret => exact ⟨r, _, a₁, w₁, hr, hq, harr⟩
      | panic ch => exact ⟨r, _, a₁, w₁, hr, hq, harr⟩
      | outgrown => exact ⟨r, _, a₁, w₁, hr, hq, harr⟩
  obtain ⟨e, a₁, w₁, hq, harr⟩ := first b (.inScope c :: k) cs
  cases e with
  | normal => exact ⟨.normal, a₁, w₁, hq, .head step_scope (Steps.trans harr (.one step_inScope))⟩
  | exit id => exact ⟨.exit id, a₁, w₁, hq, fun k' hk => .head step_scope (harr k' (by simp [exitTo, hk]))⟩
  | goto l' =>
    obtain ⟨m, hm, hJ'⟩ := hq
    obtain ⟨r₂, e₂, a₂, w₂, hr₂, hq₂, harr₂⟩ := key m l' a₁ w₁ hJ'
    exact ⟨e₂, a₂, w₂, hq₂, .of_steps (.head step_scope (harr _ (hg l' _ hr₂))) harr₂⟩
  | ret => exact ⟨_, a₁, w₁, hq, .of_steps (.one step_scope) harr⟩
  | panic ch => exact ⟨_, a₁, w₁, hq, .of_steps (.one step_scope) harr⟩
  | outgrown => exact ⟨_, a₁, w₁, hq, .of_steps (.one step_scope) harr⟩
theorem jumps_ret (J : Nat → Act → World → Prop) (Q : Exit → Act → World → Prop) (a : Act) (w : World) : jumps J Q .ret a w = Q .ret a w := rfl
theorem jumps_goto (J : Nat → Act → World → Prop) (Q : Exit → Act → World → Prop) (l : Nat) (a : Act) (w : World) : jumps J Q (.goto l) a w = J l a w := rfl
theorem jumps_normal (J : Nat → Act → World → Prop) (Q : Exit → Act → World → Prop) (a : Act) (w : World) : jumps J Q .normal a w = Q .normal a w := rfl
theorem jumps_mono {J J' : Nat → Act → World → Prop} {Q : Exit → Act → World → Prop} (h : ∀ l a w, J l a w → J' l a w) : ∀ e a w, jumps J Q e a w → jumps J' Q e a w := by
  intro e a w hj
  cases e <;> first | exact h _ _ _ hj | exact hj
theorem wp_skip_seq {P : Program} {a : Act} {w : World} {Q : Exit → Act → World → Prop} {c : Code} (h : c.wp P Q a w) : (Code.skip.seq c).wp P Q a w := wp_seq (wp_skip h)
theorem wp_scope_pass {P : Program} {a : Act} {w : World} {Q : Exit → Act → World → Prop} {c : Code} (J : Nat → Nat → Act → World → Prop) (n0 : Nat)
    (pass : ∀ n l a w, J n l a w → ∃ rest, findLabel c l = some (Code.skip.seq rest) ∧ rest.wp P (jumps (fun l' a' w' => ∃ m, m < n ∧ J m l' a' w') Q) a w)
    (first : (∀ n l a w rest, n < n0 → findLabel c l = some (Code.skip.seq rest) → J n l a w → rest.wp P (jumps (fun l a' w' => ∃ m, m < n0 ∧ J m l a' w') Q) a w) → c.wp P (jumps (fun l a' w' => ∃ m, m < n0 ∧ J m l a' w') Q) a w) : (Code.scope c).wp P Q a w := by
  refine wp_scope_labels J n0 (first fun n l a w rest hn hf hJ => ?_) (fun n l a w h => ?_)
  · obtain ⟨r, hr, hw⟩ := pass n l a w hJ
    rw [hf] at hr
    injection hr with hr
    injection hr with _ hr
    subst hr
    exact wp_mono hw (jumps_mono fun l a w ⟨m, hm, h⟩ => ⟨m, by omega, h⟩)
  · obtain ⟨r, hr, hw⟩ := pass n l a w h
    exact ⟨_, hr, wp_skip_seq hw⟩
end Go.Proofs.YtjelneeeijjpiaaGreatDoor
end
section
namespace Go.Proofs.YtjelneeeijjpiaaGreatDoor
open Go.RowKit
def exc (x : Nat) : Nat → Int
  | 0 => 0
  | k + 1 => exc x k + ((x / 2 ^ k % 2 : Nat) * 2 - 1)
def rmin (x : Nat) : Nat → Int
  | 0 => 64
  | k + 1 => min (rmin x k) (exc x (k + 1))
def rmax (x : Nat) : Nat → Int
  | 0 => -64
  | k + 1 => max (rmax x k) (exc x (k + 1))
theorem exc_bd (x k : Nat) : -(k : Int) ≤ exc x k ∧ exc x k ≤ k := by
  induction k with
  | zero => simp [exc]
  | succ k ih => unfold exc; omega
theorem rmin_bd (x k : Nat) : -(k : Int) ≤ rmin x k ∧ rmin x k ≤ 64 := by
  induction k with
  | zero => simp [rmin]
  | succ k ih => have := exc_bd x (k + 1); unfold rmin; omega
theorem rmax_bd (x k : Nat) : -64 ≤ rmax x k ∧ rmax x k ≤ k := by
  induction k with
  | zero => simp [rmax]
  | succ k ih => have := exc_bd x (k + 1); unfold rmax; omega
set_option maxRecDepth 100000 in
theorem first_any (n : Nat) (hn : n ≤ 64) (w : World) : Calls Tryz.prog 227 #[.int .i64 (n : Nat)] w fun e w' => e = .returned (.int .i64 (n : Nat)) ∧ w = w' := by
  have h1 : max (n : Int) 0 = n := by omega
  have h2 : min (n : Int) 64 = n := by omega
  go_enter Tryz.func227, Tryz.ntmps227
  go_wp2
  go_ret
  exact ⟨ret_i64 (by omega), rfl⟩
theorem bit_key (x k : Nat) (hx : x < 256) : bits .and .u64 ((x / 2 ^ k : Nat) : Int) 1 = ((x / 2 ^ k % 2 : Nat) : Int) := by
  have h : ∀ y : Nat, y < 256 → bits .and .u64 (y : Int) 1 = ((y % 2 : Nat) : Int) := by decide +kernel
  exact h _ (Nat.lt_of_le_of_lt (Nat.div_le_self _ _) hx)
theorem bit_key' (x : Nat) (hx : x < 256) : bits .and .u64 (x : Int) 1 = ((x % 2 : Nat) : Int) := by
  have := bit_key x 0 hx
  simpa using this
set_option maxRecDepth 100000 in
theorem excess_any (x n : Nat) (hx : x < 256) (hn : n < 9) (w : World) : Calls Tryz.prog 223 #[.int .u64 (x : Nat), .int .i64 (n : Nat)] w fun e w' => e = .returned (.int .i64 (exc x n)) ∧ w = w' := by
  go_enter Tryz.func223, Tryz.ntmps223
  go_wp2_with fail
  refine (ones_any x n hx hn _).mono ?_; rintro e w1 ⟨rfl, rfl⟩
  go_wp2_with fail
  refine (first_any n (by omega) _).mono ?_; rintro e w1 ⟨rfl, rfl⟩
  go_wp2_with fail
  go_ret
  refine ⟨ret_i64 ?_, rfl⟩
  clear w
  revert n
  revert x
  decide +kernel
theorem i64_eq {a b : Int} (h : a = b) : Value.int .i64 a = .int .i64 b := by rw [h]
set_option maxRecDepth 100000 in
set_option maxHeartbeats 1000000 in
theorem reach_any (x n : Nat) (hx : x < 256) (hn : n < 9) (h0 : 0 < n) (w : World) :
    Calls Tryz.prog 224 #[.int .u64 (x : Nat), .int .i64 (n : Nat)] w fun e w' => e = .returned (.complex .f64 (floatOfInt .f64 (rmin x n)) (floatOfInt .f64 (rmax x n))) ∧ w = w' := by
  have hn0 : ((n : Int) == 0) = false := by rw [beq_eq_false_iff_ne]; omega
  go_enter Tryz.func224, Tryz.ntmps224
  go_wp2_with fail
  refine (first_any n (by omega) _).mono ?_; rintro e w1 ⟨rfl, rfl⟩
  go_wp2_with fail
  go_loopg [0, 5, 6, 7, 13] n (fun g y lo hi e i wr => ∃ k v : Nat, k ≤ n ∧ g = n - k ∧ y = .int .u64 (v : Nat) ∧ v < 256 ∧ Hid (x / 2 ^ k = v) ∧ lo = .int .i64 (rmin x k) ∧ hi = .int .i64 (rmax x k) ∧ e = .int .i64 (exc x k) ∧ i = .int .i64 k ∧ w = wr)
  case atStart => exact ⟨0, x, by omega, rfl, rfl, hx, Lib.hid (by simp), rfl, rfl, rfl, rfl, rfl⟩
  case round =>
    obtain ⟨k, v, hk, rfl, rfl, hv, HV, rfl, rfl, rfl, rfl, rfl⟩ := hrel
    by_cases hlt : k < n
    · have hdk : decide ((k : Int) < (n : Int)) = true := by rw [decide_eq_true_eq]; omega
      obtain ⟨b, hbb⟩ : ∃ b, v % 2 = b := ⟨_, rfl⟩
      have hb := bit_key' v hv
      rw [hbb] at hb
      have hb2 : b < 2 := by omega
      have he : Hid (exc x (k + 1) = exc x k + ((b : Int) * 2 - 1)) := Lib.hid (by rw [exc, HV.out, hbb])
      have hm : Hid (rmin x (k + 1) = min (rmin x k) (exc x k + ((b : Int) * 2 - 1))) := Lib.hid (by rw [rmin, he.out])
      have hM : Hid (rmax x (k + 1) = max (rmax x k) (exc x k + ((b : Int) * 2 - 1))) := Lib.hid (by rw [rmax, he.out])
      have e1 := exc_bd x k
      have e2 := rmin_bd x k
      have e3 := rmax_bd x k
      obtain ⟨v2, hv2⟩ : ∃ v2, v / 2 = v2 := ⟨_, rfl⟩
      have hvd : (v : Int) / 2 = (v2 : Int) := by omega
      have HV2 : Hid (x / 2 ^ (k + 1) = v2) := Lib.hid (by rw [Nat.pow_succ, ← Nat.div_div_eq_div_mul, HV.out, hv2])
      have hv2' : v2 < 256 := by omega
      clear hbb hv2
      go_wp2_with fail
      all_goals
        go_roundg (n - (k + 1))
        case measure => go_light; omega
        case rel => go_light; exact ⟨k + 1, v2, by omega, rfl, by go_num, hv2', HV2, i64_eq (by rw [hm.out] <;> omega), i64_eq (by rw [hM.out] <;> omega), i64_eq (by rw [he.out]), by go_num, rfl⟩
    · have hdk : decide ((k : Int) < (n : Int)) = false := by rw [decide_eq_false_iff_not]; omega
      obtain rfl : k = n := by omega
      clear hk hlt
      go_wp2_with fail
      go_ret
      exact ⟨rfl, rfl⟩
end Go.Proofs.YtjelneeeijjpiaaGreatDoor
end
