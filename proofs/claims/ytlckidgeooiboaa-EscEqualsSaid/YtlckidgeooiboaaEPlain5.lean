/- Plain law of the strings' layer: a text comes again from its shortest string, which is the shortest. -/
import Derived.Test.YtlckidgeooiboaaEPlain4
namespace Go.Proofs.Le
open Go.Proofs.Lw
theorem putL_one (b : UInt8) (h : (b.toNat : Int) < 128) : putL (b.toNat : Int) = [b] := by
  rw [putL_eq_iff]; unfold putN nums
  rw [if_neg (by omega), if_pos h]; rfl
theorem uscal_is (l : List UInt8) (h : (uscal l).2 ≠ 0) : putL (uscal l).1 = l.take (uscal l).2 := by
  cases l with
  | nil => exact absurd rfl h
  | cons b0 l =>
    have hb := b0.toNat_lt
    by_cases h1 : (b0.toNat : Int) < 128
    · rw [U_0 b0 l h1]; exact putL_one b0 h1
    · by_cases h2 : (b0.toNat : Int) < 194 ∨ 245 ≤ (b0.toNat : Int)
      · rw [U_bad b0 l (by omega)] at h; exact absurd rfl h
      · by_cases h3 : (b0.toNat : Int) < 224
        · cases l with
          | nil => rw [U_2s b0 (by omega)] at h; exact absurd rfl h
          | cons b1 l =>
            rw [U_2 b0 b1 l (by omega)] at h ⊢
            by_cases hc : 128 ≤ (b1.toNat : Int) ∧ (b1.toNat : Int) ≤ 191
            · rw [if_pos hc]; exact (putL_eq_iff _ _).2 ((H_2 b0 b1 (by omega)).2 ⟨by omega, hc⟩)
            · rw [if_neg hc] at h; exact absurd rfl h
        · by_cases h4 : (b0.toNat : Int) < 240
          · rcases l with _ | ⟨b1, _ | ⟨b2, l⟩⟩
            · rw [U_3s b0 [] (by omega) (by simp)] at h; exact absurd rfl h
            · rw [U_3s b0 [b1] (by omega) (by simp)] at h; exact absurd rfl h
            · rw [U_3 b0 b1 b2 l (by omega)] at h ⊢
              by_cases hc : (low3 b0.toNat ≤ (b1.toNat : Int) ∧ (b1.toNat : Int) ≤ high3 b0.toNat) ∧ 128 ≤ (b2.toNat : Int) ∧ (b2.toNat : Int) ≤ 191
              · rw [if_pos hc]; exact (putL_eq_iff _ _).2 ((H_3 b0 b1 b2 (by omega)).2 hc)
              · rw [if_neg hc] at h; exact absurd rfl h
          · rcases l with _ | ⟨b1, _ | ⟨b2, _ | ⟨b3, l⟩⟩⟩
            · rw [U_4s b0 [] (by omega) (by simp)] at h; exact absurd rfl h
            · rw [U_4s b0 [b1] (by omega) (by simp)] at h; exact absurd rfl h
            · rw [U_4s b0 [b1, b2] (by omega) (by simp)] at h; exact absurd rfl h
            · rw [U_4 b0 b1 b2 b3 l (by omega)] at h ⊢
              by_cases hc : (low4 b0.toNat ≤ (b1.toNat : Int) ∧ (b1.toNat : Int) ≤ high4 b0.toNat) ∧ (128 ≤ (b2.toNat : Int) ∧ (b2.toNat : Int) ≤ 191) ∧ 128 ≤ (b3.toNat : Int) ∧ (b3.toNat : Int) ≤ 191
              · rw [if_pos hc]; exact (putL_eq_iff _ _).2 ((H_4 b0 b1 b2 b3 (by omega)).2 ⟨by omega, hc⟩)
              · rw [if_neg hc] at h; exact absurd rfl h
/-- the bytes of a scalar that is not below 80 -/
theorem putL_high (c : Int) (h : 128 ≤ c) : ∀ b ∈ putL c, 128 ≤ b.toNat := by
  intro b hb
  unfold putL at hb
  obtain ⟨n, hn, rfl⟩ := List.mem_map.1 hb
  have h1 := putN_bytes c n hn
  have h2 : 128 ≤ n := by
    unfold putN at hn
    (repeat' split at hn) <;> simp at hn <;> omega
  rw [UInt8.toNat_ofNat']; omega
theorem escL_high (m : UInt8) (hm : m.toNat < 128) (l : List UInt8) (h : ∀ b ∈ l, 128 ≤ b.toNat) : escL m l = l := by
  induction l with
  | nil => rfl
  | cons b l ih =>
    have hb := h b (by simp)
    have e : escB m b = [b] := by
      unfold escB
      rw [if_neg, if_neg]
      · intro h'
        have := UInt8.lt_iff_toNat_lt.1 h'
        have e32 : (32 : UInt8).toNat = 32 := rfl
        omega
      · rintro (rfl | rfl)
        · omega
        · have e92 : (92 : UInt8).toNat = 92 := rfl
          omega
    rw [escL, e, ih (fun x hx => h x (by simp [hx]))]; rfl
theorem putL_len (c : Int) : (putL c).length ≤ 4 := by
  unfold putL putN
  (repeat' split) <;> simp
theorem escPut_len (c : Int) : (escL 34 (putL c)).length ≤ 6 := by
  by_cases h : c < 128
  · have : (putL c).length ≤ 1 := by
      unfold putL putN
      (repeat' split) <;> simp <;> omega
    have h2 := escL_len 34 (putL c)
    omega
  · rw [escL_high 34 (by decide) _ (putL_high c (by omega))]
    have := putL_len c
    omega
theorem putL_low (c : Int) (h0 : 0 ≤ c) (h : c < 128) : putL c = [UInt8.ofNat c.toNat] := by
  unfold putL putN
  rw [if_neg (by omega), if_pos h]; rfl
theorem putL_some (c : Int) (h : ¬ (c < 0 ∨ 1114111 < c ∨ 55296 ≤ c ∧ c ≤ 57343)) : putL c ≠ [] := fun h' => h ((putL_none c).1 h')
/-- the length of a character's shortest form -/
theorem char_back (x : List UInt8) (c : Int) (m : Nat) (h : charP x = (c, m)) (hc : c ≠ -1) : putL c ≠ [] ∧ (escL 34 (putL c)).length ≤ m := by
  cases x with
  | nil => simp only [charP, Prod.mk.injEq] at h; exact absurd h.1.symm hc
  | cons a r =>
    rw [charP] at h
    by_cases h1 : a = 34 ∨ a < 32
    · rw [if_pos h1] at h; simp only [Prod.mk.injEq] at h; exact absurd h.1.symm hc
    · rw [if_neg h1] at h
      by_cases h2 : a ≠ 92
      · rw [if_pos h2] at h
        simp only [Prod.mk.injEq] at h
        have hn : (uscal (a :: r)).2 ≠ 0 := by
          intro h0; rw [if_pos h0] at h; exact hc h.1.symm
        rw [if_neg hn] at h
        have hp := uscal_is (a :: r) hn
        rw [h.1, h.2] at hp
        rw [h.2] at hn
        have hle := uscal_le (a :: r)
        rw [h.2] at hle
        have hlen : (putL c).length = m := by rw [hp, List.length_take]; omega
        refine ⟨by rw [hp]; intro e; have := congrArg List.length e; rw [List.length_take] at this; simp at this; omega, ?_⟩
        by_cases h128 : c < 128
        · by_cases hneg : c < 0
          · rw [(putL_none c).2 (by omega)] at hlen; simp at hlen; omega
          · have hl := putL_low c (by omega) h128
            have ha : UInt8.ofNat c.toNat = a := by
              rw [hl] at hp
              obtain ⟨k, rfl⟩ : ∃ k, m = k + 1 := ⟨m - 1, by omega⟩
              rw [List.take_succ_cons] at hp
              injection hp
            rw [hl, ha]
            have : escB 34 a = [a] := by
              unfold escB
              rw [if_neg (by rintro (e | e); exact h1 (.inl e); exact h2 e), if_neg (fun e => h1 (.inr e))]
            simp only [escL, this]
            simp; omega
        · rw [escL_high 34 (by decide) _ (putL_high c (by omega))]; omega
      · rw [if_neg h2] at h
        cases r with
        | nil => simp only [escP, Prod.mk.injEq] at h; exact absurd h.1.symm hc
        | cons b q =>
          rw [escP] at h
          split at h
          · have hm := unitsP_len _ _ _ h
            have h6 := escPut_len c
            refine ⟨?_, by omega⟩
            have hb := unitP_bd ((a :: b :: q).drop 2)
            unfold unitsP at h
            split at h
            · simp only [Prod.mk.injEq] at h
              exact putL_some c (by omega)
            · split at h
              · simp only [Prod.mk.injEq] at h
                exact putL_some c (by omega)
              · simp only [Prod.mk.injEq] at h
                exact putL_some c (by omega)
          · simp only [Prod.mk.injEq] at h
            obtain ⟨h3, rfl⟩ := h
            have hs : c = 34 ∨ c = 92 ∨ c = 47 ∨ c = 8 ∨ c = 12 ∨ c = 10 ∨ c = 13 ∨ c = 9 := by
              unfold simpleP at h3
              (repeat' split at h3) <;> omega
            rcases hs with rfl | rfl | rfl | rfl | rfl | rfl | rfl | rfl <;> exact ⟨by decide, by decide⟩
end Go.Proofs.Le
