/- Plain laws of the UTF layer: the reference's part and Live. -/
import Derived.Test.YtlckidgeooiboaaUPlain5
namespace Go.Proofs.Lw
def lowsL : List UInt8 := [128, 160, 144]
def highsL : List UInt8 := [191, 159, 143]
/-- the second byte that part tries -/
def extB (i k : Nat) : UInt8 := if k % 2 = 0 then lowsL.getD i 0 else highsL.getD i 0
def cand4 (l : List UInt8) (i k : Nat) : List UInt8 := if l.length = 1 then l ++ [extB i k, 128, 128] else l ++ [128, 128, 128]
/-- does the try (i, k, m) find a scalar of m bytes? -/
def rhit (l : List UInt8) (i k m : Nat) : Bool := (uscal ((cand4 l i k).take m)).2 == m
def PHit (l : List UInt8) : Prop := ∃ i k m, i < 3 ∧ k < 3 ∧ l.length < m ∧ m ≤ 4 ∧ rhit l i k m = true

theorem cand_pre (l : List UInt8) (i k m : Nat) (h : l.length < m) : ∃ t, (cand4 l i k).take m = l ++ t := by
  unfold cand4
  split
  · refine ⟨[extB i k, 128, 128].take (m - l.length), ?_⟩
    rw [List.take_append, List.take_of_length_le (by omega)]
  · refine ⟨[128, 128, 128].take (m - l.length), ?_⟩
    rw [List.take_append, List.take_of_length_le (by omega)]
/-- where the steps die no try finds anything -/
theorem no_hit (l t : List UInt8) (hz : ∀ j, 0 < j → j ≤ l.length → urun 0 (l.take j) ≠ 0) (hd : urun 0 l = 8) : (uscal (l ++ t)).2 ≤ 0 := by
  rcases uscalS_run (l ++ t) 0 0 0 with ⟨h1, _⟩ | ⟨n, h1, h2, h3, h4, _⟩
  · unfold uscal; omega
  · exfalso
    by_cases hn : n ≤ l.length
    · rw [List.take_append_of_le_length hn] at h4
      exact hz n h1 hn h4
    · rw [List.take_append, List.take_of_length_le (by omega), urun_append, hd, urun_dead] at h4
      exact absurd h4 (by decide)
theorem lives_or_dead (l : List UInt8) (st : Int) (h : st ≠ 8) : Lives st l ∧ urun st l ≠ 8 ∨ ¬ Lives st l ∧ urun st l = 8 := by
  induction l generalizing st with
  | nil => exact .inl ⟨trivial, h⟩
  | cons b l ih =>
    by_cases hb : ustep st b.toNat = 8
    · exact .inr ⟨fun hl => hl.1 hb, by rw [urun, hb, urun_dead]⟩
    · rcases ih _ hb with ⟨h1, h2⟩ | ⟨h1, h2⟩
      · exact .inl ⟨⟨hb, h1⟩, h2⟩
      · exact .inr ⟨fun hl => h1 hl.2, h2⟩
/-- what finds: the steps end at 0, not before -/
theorem hit_of_run (L : List UInt8) (m : Nat) (h0 : 0 < m) (hl : L.length = m) (hz : ∀ j, 0 < j → j < m → urun 0 (L.take j) ≠ 0) (he : urun 0 L = 0) : (uscal L).2 = m := by
  rcases uscalS_run L 0 0 0 with ⟨_, h2⟩ | ⟨n, h1, h2, h3, h4, _⟩
  · exact absurd (by rw [List.take_of_length_le (by omega)]; exact he) (h2 m h0 (by omega))
  · have : ¬ n < m := fun hx => hz n h1 hx h4
    unfold uscal; omega
/-- from a state that is neither 0 nor 8 some tail of 128s ends at 0 -/
theorem tail_1 : ustep 1 128 = 0 := rfl
theorem tail_2 : ustep 2 128 = 1 := rfl
theorem tail_3 : ustep 3 128 = 2 := rfl
theorem first_states (b : Int) (h8 : ufirst b ≠ 8) (h0 : ufirst b ≠ 0) : ufirst b = 1 ∨ ufirst b = 2 ∨ ufirst b = 3 ∨ ufirst b = 4 ∨ ufirst b = 5 ∨ ufirst b = 6 ∨ ufirst b = 7 := by
  have := ufirst_range b; omega
theorem second_states (st b : Int) (hs : 1 ≤ st ∧ st ≤ 7) (h8 : ustep st b ≠ 8) (h0 : ustep st b ≠ 0) : ustep st b = 1 ∨ ustep st b = 2 := by
  have hs' : st = 1 ∨ st = 2 ∨ st = 3 ∨ st = 4 ∨ st = 5 ∨ st = 6 ∨ st = 7 := by omega
  rcases hs' with rfl | rfl | rfl | rfl | rfl | rfl | rfl
  · rw [ustep_1] at *; split at h8 <;> simp_all
  · rw [ustep_2] at *; split at h8 <;> simp_all
  · rw [ustep_3] at *; split at h8 <;> simp_all
  · rw [ustep_4] at *; split at h8 <;> simp_all
  · rw [ustep_5] at *; split at h8 <;> simp_all
  · rw [ustep_6] at *; split at h8 <;> simp_all
  · rw [ustep_7] at *; split at h8 <;> simp_all
theorem hit_from (l t : List UInt8) (i k m : Nat) (hc : (cand4 l i k).take m = l ++ t) (hm : m = l.length + t.length) (h1 : 0 < t.length) (hz : ∀ j, 0 < j → j ≤ l.length → urun 0 (l.take j) ≠ 0)
    (ht : ∀ j, 0 < j → j < t.length → urun (urun 0 l) (t.take j) ≠ 0) (he : urun (urun 0 l) t = 0) : rhit l i k m = true := by
  rw [rhit, hc, beq_iff_eq]
  refine hit_of_run _ m (by omega) (by simp; omega) (fun j h0 hj => ?_) (by rw [urun_append, he])
  by_cases hjl : j ≤ l.length
  · rw [List.take_append_of_le_length hjl]; exact hz j h0 hjl
  · rw [List.take_append, List.take_of_length_le (by omega), urun_append]
    exact ht (j - l.length) (by omega) (by omega)
set_option maxRecDepth 100000 in
theorem phit_iff (l : List UInt8) (h0 : 0 < l.length) (h3 : l.length ≤ 3) (hz : ∀ j, 0 < j → j ≤ l.length → urun 0 (l.take j) ≠ 0) : PHit l ↔ Lives 0 l := by
  rcases lives_or_dead l 0 (by decide) with ⟨hl, hr⟩ | ⟨hl, hr⟩
  · refine ⟨fun _ => hl, fun _ => ?_⟩
    have hne : urun 0 l ≠ 0 := by have := hz l.length h0 (Nat.le_refl _); rwa [List.take_length] at this
    match l, h0, h3 with
    | [b], _, _ =>
      have e : urun 0 [b] = ufirst b.toNat := rfl
      rcases first_states b.toNat (by rw [← e]; exact hr) (by rw [← e]; exact hne) with h | h | h | h | h | h | h
      · exact ⟨0, 0, 2, by omega, by omega, by simp, by omega, hit_from [b] [128] 0 0 2 rfl rfl (by simp) hz (fun j a c => by simp at c; omega) (by rw [e, h]; rfl)⟩
      · exact ⟨0, 0, 3, by omega, by omega, by simp, by omega, hit_from [b] [128, 128] 0 0 3 rfl rfl (by simp) hz (fun j a c => by
          obtain rfl : j = 1 := by simp at c; omega
          rw [e, h]; decide) (by rw [e, h]; rfl)⟩
      · exact ⟨0, 0, 4, by omega, by omega, by simp, by omega, hit_from [b] [128, 128, 128] 0 0 4 rfl rfl (by simp) hz (fun j a c => by
          have : j = 1 ∨ j = 2 := by simp at c; omega
          rw [e, h]; rcases this with rfl | rfl <;> decide) (by rw [e, h]; rfl)⟩
      · exact ⟨1, 0, 3, by omega, by omega, by simp, by omega, hit_from [b] [160, 128] 1 0 3 rfl rfl (by simp) hz (fun j a c => by
          obtain rfl : j = 1 := by simp at c; omega
          rw [e, h]; decide) (by rw [e, h]; rfl)⟩
      · exact ⟨0, 0, 3, by omega, by omega, by simp, by omega, hit_from [b] [128, 128] 0 0 3 rfl rfl (by simp) hz (fun j a c => by
          obtain rfl : j = 1 := by simp at c; omega
          rw [e, h]; decide) (by rw [e, h]; rfl)⟩
      · exact ⟨2, 0, 4, by omega, by omega, by simp, by omega, hit_from [b] [144, 128, 128] 2 0 4 rfl rfl (by simp) hz (fun j a c => by
          have : j = 1 ∨ j = 2 := by simp at c; omega
          rw [e, h]; rcases this with rfl | rfl <;> decide) (by rw [e, h]; rfl)⟩
      · exact ⟨0, 0, 4, by omega, by omega, by simp, by omega, hit_from [b] [128, 128, 128] 0 0 4 rfl rfl (by simp) hz (fun j a c => by
          have : j = 1 ∨ j = 2 := by simp at c; omega
          rw [e, h]; rcases this with rfl | rfl <;> decide) (by rw [e, h]; rfl)⟩
    | [b, c], _, _ =>
      have e : urun 0 [b, c] = ustep (ufirst b.toNat) c.toNat := rfl
      have h1 : ufirst b.toNat ≠ 0 := hz 1 (by omega) (by simp)
      have h8 : ufirst b.toNat ≠ 8 := hl.1
      rcases second_states (ufirst b.toNat) c.toNat (by have := ufirst_range b.toNat; omega) (by rw [← e]; exact hr) (by rw [← e]; exact hne) with h | h
      · exact ⟨0, 0, 3, by omega, by omega, by simp, by omega, hit_from [b, c] [128] 0 0 3 rfl rfl (by simp) hz (fun j a c => by simp at c; omega) (by rw [e, h]; rfl)⟩
      · exact ⟨0, 0, 4, by omega, by omega, by simp, by omega, hit_from [b, c] [128, 128] 0 0 4 rfl rfl (by simp) hz (fun j a c => by
          obtain rfl : j = 1 := by simp at c; omega
          rw [e, h]; decide) (by rw [e, h]; rfl)⟩
    | [b, c, d], _, _ =>
      have e : urun 0 [b, c, d] = ustep (ustep (ufirst b.toNat) c.toNat) d.toNat := rfl
      have h1 : ufirst b.toNat ≠ 0 := hz 1 (by omega) (by simp)
      have h8 : ufirst b.toNat ≠ 8 := hl.1
      have k1 : ustep (ufirst b.toNat) c.toNat ≠ 0 := hz 2 (by omega) (by simp)
      have k8 : ustep (ufirst b.toNat) c.toNat ≠ 8 := hl.2.1
      have hd : urun 0 [b, c, d] = 1 := by
        have r8 : ustep (ustep (ufirst b.toNat) c.toNat) d.toNat ≠ 8 := by rw [← e]; exact hr
        have r0 : ustep (ustep (ufirst b.toNat) c.toNat) d.toNat ≠ 0 := by rw [← e]; exact hne
        rcases second_states (ufirst b.toNat) c.toNat (by have := ufirst_range b.toNat; omega) k8 k1 with h | h
        · rw [h, ustep_1] at r8 r0; split at r8 <;> simp_all
        · rw [e, h, ustep_2]; rw [h, ustep_2] at r8; split at r8 <;> simp_all
      exact ⟨0, 0, 4, by omega, by omega, by simp, by omega, hit_from [b, c, d] [128] 0 0 4 rfl rfl (by simp) hz (fun j a c => by simp at c; omega) (by rw [hd]; rfl)⟩
  · refine ⟨fun ⟨i, k, m, _, _, hm, _, hh⟩ => ?_, fun x => absurd x hl⟩
    exfalso
    obtain ⟨t, ht⟩ := cand_pre l i k m hm
    have := no_hit l t hz hr
    rw [rhit, ht, beq_iff_eq] at hh
    omega
end Go.Proofs.Lw
