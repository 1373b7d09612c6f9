/- Plain laws of the UTF layer: a scalar comes again from its bytes; what Scalar's answer tells of the steps. -/
import Derived.Test.YtlckidgeooiboaaUPlain4
namespace Go.Proofs.Lw
theorem bOf {n : Int} (h0 : 0 ≤ n) (h1 : n ≤ 255) : ((UInt8.ofNat n.toNat).toNat : Int) = n := by
  rw [UInt8.toNat_ofNat', Nat.mod_eq_of_lt (by omega)]; omega
theorem uscal_put (c : Int) (B : List UInt8) (h : putL c ≠ []) : uscal (putL c ++ B) = (c, (putL c).length) := by
  unfold putL putN at *
  by_cases h0 : c < 0 ∨ 1114111 < c ∨ 55296 ≤ c ∧ c ≤ 57343
  · rw [if_pos h0] at h; exact absurd rfl h
  · rw [if_neg h0] at h ⊢
    by_cases h1 : c < 128
    · rw [if_pos h1]
      have e := bOf (n := c) (by omega) (by omega)
      simp only [List.map_cons, List.map_nil, List.cons_append, List.nil_append, List.length_cons, List.length_nil]
      rw [U_0 _ _ (by omega), e]
    · rw [if_neg h1]
      by_cases h2 : c < 2048
      · rw [if_pos h2]
        have e0 := bOf (n := 192 + c / 64) (by omega) (by omega)
        have e1 := bOf (n := 128 + c % 64) (by omega) (by omega)
        simp only [List.map_cons, List.map_nil, List.cons_append, List.nil_append, List.length_cons, List.length_nil]
        rw [U_2 _ _ _ (by omega), if_pos (by omega), e0, e1]
        exact Prod.ext (by show (_ : Int) = _; omega) rfl
      · rw [if_neg h2]
        by_cases h3 : c < 65536
        · rw [if_pos h3]
          have e0 := bOf (n := 224 + c / 4096) (by omega) (by omega)
          have e1 := bOf (n := 128 + c / 64 % 64) (by omega) (by omega)
          have e2 := bOf (n := 128 + c % 64) (by omega) (by omega)
          simp only [List.map_cons, List.map_nil, List.cons_append, List.nil_append, List.length_cons, List.length_nil]
          rw [U_3 _ _ _ _ (by omega), if_pos (by unfold low3 high3; rw [e0, e1, e2]; (repeat' split) <;> omega), e0, e1, e2]
          exact Prod.ext (by show (_ : Int) = _; omega) rfl
        · rw [if_neg h3]
          have e0 := bOf (n := 240 + c / 262144) (by omega) (by omega)
          have e1 := bOf (n := 128 + c / 4096 % 64) (by omega) (by omega)
          have e2 := bOf (n := 128 + c / 64 % 64) (by omega) (by omega)
          have e3 := bOf (n := 128 + c % 64) (by omega) (by omega)
          simp only [List.map_cons, List.map_nil, List.cons_append, List.nil_append, List.length_cons, List.length_nil]
          rw [U_4 _ _ _ _ _ (by omega), if_pos (by unfold low4 high4; rw [e0, e1, e2, e3]; (repeat' split) <;> omega), e0, e1, e2, e3]
          exact Prod.ext (by show (_ : Int) = _; omega) rfl
theorem putL_none (c : Int) : putL c = [] ↔ c < 0 ∨ 1114111 < c ∨ 55296 ≤ c ∧ c ≤ 57343 := by
  unfold putL putN
  (repeat' split) <;> simp <;> omega
/-- what the answer of Scalar's loop tells of the steps -/
theorem uscalS_run (l : List UInt8) (st c : Int) (i : Nat) : ((uscalS st c i l).2 = 0 ∧ ∀ j, 0 < j → j ≤ l.length → urun st (l.take j) ≠ 0) ∨
    ∃ n, 0 < n ∧ n ≤ l.length ∧ (uscalS st c i l).2 = i + n ∧ urun st (l.take n) = 0 ∧ ∀ j, 0 < j → j < n → urun st (l.take j) ≠ 0 := by
  induction l generalizing st c i with
  | nil => exact .inl ⟨rfl, fun j h0 h1 => by simp at h1; omega⟩
  | cons b l ih =>
    rw [uscalS_cons]
    by_cases h8 : ustep st b.toNat = 8
    · rw [if_pos h8]
      refine .inl ⟨rfl, fun j h0 h1 => ?_⟩
      obtain ⟨k, rfl⟩ : ∃ k, j = k + 1 := ⟨j - 1, by omega⟩
      rw [List.take_succ_cons, urun, h8, urun_dead]; decide
    · rw [if_neg h8]
      by_cases hz : ustep st b.toNat = 0
      · rw [if_pos hz]
        exact .inr ⟨1, by omega, by simp, rfl, by simp [urun, hz], fun j h0 h1 => by omega⟩
      · rw [if_neg hz]
        rcases ih (ustep st b.toNat) (if 0 < i then c * 64 + (b.toNat : Int) % 64 else ufirstC b.toNat) (i + 1) with ⟨h1, h2⟩ | ⟨n, h1, h2, h3, h4, h5⟩
        · refine .inl ⟨h1, fun j h0 hj => ?_⟩
          obtain ⟨k, rfl⟩ : ∃ k, j = k + 1 := ⟨j - 1, by omega⟩
          rw [List.take_succ_cons, urun]
          by_cases hk : k = 0
          · subst hk; simpa [urun] using hz
          · exact h2 k (by omega) (by simp at hj; omega)
        · refine .inr ⟨n + 1, by omega, by simp; omega, by rw [h3]; omega, by rw [List.take_succ_cons, urun]; exact h4, fun j h0 hj => ?_⟩
          obtain ⟨k, rfl⟩ : ∃ k, j = k + 1 := ⟨j - 1, by omega⟩
          rw [List.take_succ_cons, urun]
          by_cases hk : k = 0
          · subst hk; simpa [urun] using hz
          · exact h5 k (by omega) (by omega)
theorem uscal_none (l : List UInt8) (h : (uscal l).2 = 0) : ∀ j, 0 < j → j ≤ l.length → urun 0 (l.take j) ≠ 0 := by
  rcases uscalS_run l 0 0 0 with ⟨_, h2⟩ | ⟨n, h1, _, h3, _⟩
  · exact h2
  · unfold uscal at h; omega
theorem uscal_some (l : List UInt8) (h : (uscal l).2 ≠ 0) : (uscal l).2 ≤ l.length ∧ urun 0 (l.take (uscal l).2) = 0 ∧ ∀ j, 0 < j → j < (uscal l).2 → urun 0 (l.take j) ≠ 0 := by
  rcases uscalS_run l 0 0 0 with ⟨h1, _⟩ | ⟨n, h1, h2, h3, h4, h5⟩
  · exact absurd h1 h
  · have e : (uscal l).2 = n := by unfold uscal; omega
    rw [e]; exact ⟨h2, h4, h5⟩
theorem run_zero_lives (l : List UInt8) (st : Int) (h : urun st l = 0) : Lives st l := by
  induction l generalizing st with
  | nil => trivial
  | cons b l ih =>
    rw [urun] at h
    refine ⟨?_, ih _ h⟩
    intro h8
    rw [h8, urun_dead] at h
    exact absurd h (by decide)
theorem put_right (c : Int) (h : putL c ≠ []) : uright (putL c) = true := by
  have e := uscal_put c [] h
  rw [List.append_nil] at e
  have hn : (putL c).length ≠ 0 := fun x => h (List.eq_nil_of_length_eq_zero x)
  have := (uscal_some (putL c) (by rw [e]; exact hn)).2.1
  rw [e, List.take_length] at this
  rw [uright, this]; rfl
theorem put_begin (c : Int) (h : putL c ≠ []) (i : Nat) (h0 : 0 < i) (h1 : i < (putL c).length) : ulive 0 ((putL c).take i) = i ∧ uright ((putL c).take i) = false := by
  have e := uscal_put c [] h
  rw [List.append_nil] at e
  have hn : (putL c).length ≠ 0 := fun x => h (List.eq_nil_of_length_eq_zero x)
  obtain ⟨_, h2, h3⟩ := uscal_some (putL c) (by rw [e]; exact hn)
  rw [e, List.take_length] at h2
  have hl := run_zero_lives _ _ h2
  rw [← List.take_append_drop i (putL c), lives_append] at hl
  constructor
  · rw [ulive_of_lives _ _ hl.1]; simp; omega
  · rw [uright, beq_eq_false_iff_ne]
    exact h3 i h0 (by rw [e]; exact h1)
end Go.Proofs.Lw
