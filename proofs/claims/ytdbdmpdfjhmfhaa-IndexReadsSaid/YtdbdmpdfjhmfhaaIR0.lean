/- Both readers of a table's bytes tell the same. -/
import Derived.Test.YtdbdmpdfjhmfhaaIW15
namespace Go.Proofs.Ytdbdmpdfjhmfhaa
open Go.RowKit Go.Proofs.Lx

theorem last8 (s : ByteArray) (n : Nat) (hn : s.size = n + 8) : (s.extract n s.size).data.toList.length = 8 := by
  rw [← size_list]; simp; omega
theorem bool_is {p : Prop} {b : Bool} (hb : b = true ↔ p) : (b = true ∧ p) ∨ (b = false ∧ ¬ p) := by
  cases b
  · exact .inr ⟨rfl, fun h => absurd (hb.2 h) (by decide)⟩
  · exact .inl ⟨rfl, hb.1 rfl⟩
/-- what both readers answer -/
def Answer (s : ByteArray) (d z : Nat) (L : List En) (err : Int) : Prop :=
  (∀ w, Calls Try.prog 13 #[.string s] w fun e w' => ReadPost w d z L err e w') ∧ (∀ w, Calls Try.prog 14 #[.string s] w fun e w' => ReadPost w d z L err e w')
theorem reads_both (s : ByteArray) (hs2 : s.size ≤ 10000) : ∃ (d z : Nat) (L : List En) (err : Int), Answer s d z L err := by
  by_cases hs : s.size < 40
  · exact ⟨0, 0, [], 3, fun w => (read_short s w hs).mono fun e w' h => ReadPost.zero h.1 h.2, fun w => (rread_short s w hs).mono fun e w' h => ReadPost.zero h.1 h.2⟩
  obtain ⟨n, hn⟩ : ∃ n, s.size = n + 8 := ⟨s.size - 8, by omega⟩
  have hn8 : s.size - 8 = n := by omega
  have hnI : (s.size : Int) = n + 8 := by omega
  obtain ⟨h, hh⟩ : ∃ h, s.extract 0 n = h := ⟨_, rfl⟩
  obtain ⟨t, ht⟩ : ∃ t, s.extract n s.size = t := ⟨_, rfl⟩
  have htl : t.data.toList.length = 8 := by rw [← ht]; exact last8 s n hn
  have hhz : h.size = n := by rw [← hh]; simp; omega
  have hwt := wideTo_lt t.data.toList
  rw [htl] at hwt
  by_cases hsum : wideTo t.data.toList = sumL h.data.toList
  case neg =>
    refine ⟨0, 0, [], 11, fun w => ?_, fun w => ?_⟩
    · exact (read_sum s w hs hs2 (wideTo t.data.toList) (sumL h.data.toList) (Lib.hid (by rw [hn8, ht])) (Lib.hid (by rw [hn8, hh])) (by rw [bne_iff_ne]; omega)).mono fun e w' h => ReadPost.zero h.1 h.2
    · refine (rread_sum s n w hnI hs hs2 (sumL h.data.toList) (Lib.hid (by rw [hh])) (mk (eight (sumL h.data.toList))) (Lib.hid rfl) ?_).mono fun e w' h => ReadPost.zero h.1 h.2
      rw [ht]
      refine cmp_no (fun e => hsum ?_)
      rw [mk_list] at e
      rw [← e, wideTo_eight _ (sumL_lt _)]
  case pos =>
  have hcmp : ((mk (eight (sumL h.data.toList))).toList == (s.extract n s.size).toList) = true := by
    rw [ht]; refine cmp_yes ?_
    rw [mk_list, ← hsum, eight_wideTo _ htl]
  obtain ⟨N8, s1, b1, h1⟩ : ∃ a s1 b1, takeP 8 h false = (a, s1, b1) := ⟨_, _, _, rfl⟩
  obtain ⟨dp, s2, b2, h2⟩ : ∃ a s2 b2, numP 4096 s1 b1 = (a, s2, b2) := ⟨_, _, _, rfl⟩
  obtain ⟨sz, s3, b3, h3⟩ : ∃ a s3 b3, numP 1048576 s2 b2 = (a, s3, b3) := ⟨_, _, _, rfl⟩
  obtain ⟨K, s4, b4, h4⟩ : ∃ a s4 b4, numP 4096 s3 b3 = (a, s4, b4) := ⟨_, _, _, rfl⟩
  obtain ⟨L, s5, b5, h5⟩ : ∃ a s5 b5, loopP K s4 b4 [] = (a, s5, b5) := ⟨_, _, _, rfl⟩
  have hyes : ∀ (d z : Nat) (M : List En), FormedT d z M → headB d z M = h.data.toList → (N8.data.toList = nameL ∧ b5 = false ∧ s5.size = 0 ∧ FormedT dp sz L) := by
    intro d z M hF hM
    obtain ⟨t1, t2, t3, t4, g1, g2, g3, g4, g5⟩ := prog_yes hF hM.symm
    rw [g1] at h1
    simp only [Prod.mk.injEq] at h1
    obtain ⟨rfl, rfl, rfl⟩ := h1
    rw [g2] at h2
    simp only [Prod.mk.injEq] at h2
    obtain ⟨rfl, rfl, rfl⟩ := h2
    rw [g3] at h3
    simp only [Prod.mk.injEq] at h3
    obtain ⟨rfl, rfl, rfl⟩ := h3
    rw [g4] at h4
    simp only [Prod.mk.injEq] at h4
    obtain ⟨rfl, rfl, rfl⟩ := h4
    rw [g5] at h5
    simp only [Prod.mk.injEq] at h5
    obtain ⟨rfl, rfl, rfl⟩ := h5
    exact ⟨rfl, rfl, rfl, hF⟩
  have hexN : s.extract 0 (s.size - 8) = h := by rw [hn8, hh]
  have hexT : s.extract (s.size - 8) s.size = t := by rw [hn8, ht]
  have noref : (¬ ∃ (d z : Nat) (M : List En), FormedT d z M ∧ headB d z M = h.data.toList) → ∀ w, Calls Try.prog 14 #[.string s] w fun e w' => ReadPost w ((0 : Nat) : Int) ((0 : Nat) : Int) [] 3 e w' := fun hno w => by
    refine (rread_main s n w hnI hs hs2 (sumL h.data.toList) (Lib.hid (by rw [hh])) _ (Lib.hid rfl) hcmp (numR 4096 24 h) (numR 4096 8 h) (numR 1048576 16 h) (Lib.hid (by rw [hh])) (Lib.hid (by rw [hh])) (Lib.hid (by rw [hh])) (refP h (numR 4096 24 h).toNat 32 []) (Lib.hid (by rw [hh]))
      [] false 0 0 (Lib.hid (fun h => absurd h (by decide))) (Lib.hid (fun _ => by rw [hh]; exact hno))).mono fun e w' h => h.2 rfl
  cases hnm : (N8.toList == [108, 97, 99, 101, 119, 111, 114, 107])
  · refine ⟨0, 0, [], 3, fun w => ?_, ?_⟩
    · exact read_name s w hs hs2 (sumL h.data.toList) (Lib.hid (by rw [hexT, hsum])) (Lib.hid (by rw [hexN])) N8 s1 b1 (Lib.hid (by rw [hexN]; exact h1)) hnm
    · refine noref ?_
      rintro ⟨d, z, M, hF, hM⟩
      have := name_list (hyes d z M hF hM).1
      rw [hnm] at this; exact absurd this (by decide)
  · obtain ⟨ok, hok⟩ := bool_of (b5 = false ∧ s5.size = 0 ∧ FormedT dp sz L)
    have hprog := fun w => read_main s w hs hs2 (sumL h.data.toList) (Lib.hid (by rw [hexT, hsum])) (Lib.hid (by rw [hexN])) N8 s1 b1 (Lib.hid (by rw [hexN]; exact h1)) hnm dp s2 b2 (Lib.hid h2) sz s3 b3 (Lib.hid h3) K s4 b4 (Lib.hid h4) L s5 b5 (Lib.hid h5) ok (Lib.hid hok)
    rcases bool_is hok with ⟨rfl, hb, hz, hF⟩ | ⟨rfl, hno⟩
    · have hM := prog_no h1 (name_of hnm) h2 h3 h4 h5 hb hz
      obtain ⟨r1, r2, r3, r4⟩ := ref_yes hF hM
      refine ⟨dp, sz, L, 0, fun w => (hprog w).mono fun e w' h => h.1 rfl, fun w => ?_⟩
      refine (rread_main s n w hnI hs hs2 (sumL h.data.toList) (Lib.hid (by rw [hh])) _ (Lib.hid rfl) hcmp (L.length : Nat) dp sz (Lib.hid (by rw [hh]; exact r1)) (Lib.hid (by rw [hh]; exact r2)) (Lib.hid (by rw [hh]; exact r3)) (some (h.size, L)) (Lib.hid (by rw [hh]; exact r4))
        L true dp sz (Lib.hid (fun _ => ⟨by omega, by rw [hhz], rfl, rfl, hF, by rw [hh]; exact hM.symm⟩)) (Lib.hid (fun h => absurd h (by decide)))).mono fun e w' h => h.1 rfl
    · refine ⟨0, 0, [], 3, fun w => (hprog w).mono fun e w' h => h.2 rfl, noref ?_⟩
      rintro ⟨d, z, M, hF, hM⟩
      exact hno (hyes d z M hF hM).2
end Go.Proofs.Ytdbdmpdfjhmfhaa
