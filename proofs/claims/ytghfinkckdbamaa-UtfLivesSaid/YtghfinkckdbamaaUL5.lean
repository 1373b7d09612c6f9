/- The walks of the reference's Right and Live, and of the law UtfLives. -/
import Derived.Test.YtghfinkckdbamaaUW8
import Derived.Test.YtghfinkckdbamaaUW3
namespace Go.Proofs.Ytghfinkckdbamaa
open Go.RowKit Go.Proofs.Lw

theorem rscalar_at (s : ByteArray) (k : Nat) (c : Int) (n : Nat) (w : World) (h : Hid (uscal (s.data.toList.drop k) = (c, n))) :
    Calls Try.prog 17 #[.string (s.extract k s.size)] w fun e w' => e = .returned (.tuple #[.int .i64 c, .int .i64 n]) ∧ Below w.heap.size w w' := by
  have := rscalar_any (s.extract k s.size) w
  rw [Lib.extract_data, List.take_of_length_le (by simp), h.out] at this
  exact this
theorem run_split (l : List UInt8) (k : Nat) (h : urun 0 (l.take k) = 0) : urun 0 l = urun 0 (l.drop k) := by
  have := urun_append 0 (l.take k) (l.drop k)
  rw [List.take_append_drop, h] at this; exact this
theorem run_take (l : List UInt8) (k n : Nat) (h : urun 0 (l.take k) = 0) : urun 0 (l.take (k + n)) = urun 0 ((l.drop k).take n) := by
  rw [List.take_add, urun_append, h]
theorem bthen5 {w w1 w2 : World} (h : Below w.heap.size w w1) (k : Below w1.heap.size w1 w2) : Below w.heap.size w w2 := h.trans (k.mono h.size)

set_option maxRecDepth 100000 in
theorem rright_any (s : ByteArray) (w : World) (hs : s.size ≤ maxLen) :
    Calls Try.prog 13 #[.string s] w fun e w' => e = .returned (.bool (uright s.data.toList)) ∧ Below w.heap.size w w' := by
  have hsz : Hid (s.size = s.data.toList.length) := Lib.hid (Lib.size_eq s)
  unfold maxLen at hs
  go_enter Try.func13, Try.ntmps13
  go_wp2_with fail
  go_loopg [3] s.size (fun g v wr => ∃ k : Nat, k ≤ s.size ∧ g = s.size - k ∧ v = .int .i64 k ∧ Hid (urun 0 (s.data.toList.take k) = 0) ∧ Hid (Below w.heap.size w wr))
  case atStart => exact ⟨0, Nat.zero_le _, rfl, rfl, Lib.hid rfl, Lib.hid (Below.refl _ _)⟩
  case round =>
    obtain ⟨k, hk, rfl, rfl, hU, hB⟩ := hrel
    by_cases hlt : k < s.size
    · obtain ⟨c, n, hcn⟩ : ∃ c n, uscal (s.data.toList.drop k) = (c, n) := ⟨_, _, rfl⟩
      have HC := Lib.hid hcn
      clear hcn
      have hdl : Hid ((s.data.toList.drop k).length = s.size - k) := Lib.hid (by rw [List.length_drop, ← hsz.out])
      by_cases hn : n = 0
      · subst hn
        have HR : Hid (uright s.data.toList = false) := Lib.hid (by
          have := uscal_none (s.data.toList.drop k) (by rw [HC.out]) (s.size - k) (by omega) (by rw [hdl.out]; exact Nat.le_refl _)
          rw [List.take_of_length_le (by rw [hdl.out]; exact Nat.le_refl _), ← run_split _ _ hU.out] at this
          rw [uright, beq_eq_false_iff_ne]; exact this)
        go_wp2_with fail
        refine (rscalar_at _ _ _ _ _ HC).mono ?_; rintro e w2 ⟨rfl, hb2⟩
        go_wp2_with fail
        go_ret
        exact ⟨by rw [HR.out]; rfl, bthen5 hB.out hb2⟩
      · have hn' : ((n : Int) == 0) = false := by rw [beq_eq_false_iff_ne]; omega
        have hsm := uscal_some (s.data.toList.drop k) (by rw [HC.out]; exact hn)
        rw [HC.out, hdl.out] at hsm
        have hle : k + n ≤ s.size := by have := hsm.1; simp only at this; omega
        have HT : Hid (urun 0 (s.data.toList.take (k + n)) = 0) := Lib.hid (by rw [run_take _ _ _ hU.out]; exact hsm.2.1)
        clear hsm
        go_wp2_with fail
        refine (rscalar_at _ _ _ _ _ HC).mono ?_; rintro e w2 ⟨rfl, hb2⟩
        have HB2 := Lib.hid (bthen5 hB.out hb2)
        clear hb2
        go_wp2_with fail
        go_roundg (s.size - (k + n))
        case measure => go_light; omega
        case rel => go_light; exact ⟨k + n, hle, rfl, by simp, HT, HB2⟩
    · have HR : Hid (uright s.data.toList = true) := Lib.hid (by
        have := hU.out
        rw [List.take_of_length_le (by rw [← hsz.out]; omega)] at this
        rw [uright, this]; rfl)
      go_wp2_with fail
      go_ret
      exact ⟨by rw [HR.out]; rfl, hB.out⟩

theorem live_stop (r : List UInt8) (k : Nat) (hk : k < r.length) (h1 : Lives 0 (r.take k)) (h2 : ¬ Lives 0 (r.take (k + 1))) : ulive 0 r = k := by
  have e : r = r.take k ++ r[k] :: r.drop (k + 1) := by rw [← List.drop_eq_getElem_cons hk, List.take_append_drop]
  have e2 : r.take (k + 1) = r.take k ++ [r[k]] := List.take_succ_eq_append_getElem hk
  have hlen : (r.take k).length = k := by simp; omega
  have hd : ustep (urun 0 (r.take k)) r[k].toNat = 8 := by
    by_cases hx : ustep (urun 0 (r.take k)) r[k].toNat = 8
    · exact hx
    · exfalso; apply h2; rw [e2, lives_append]; exact ⟨h1, hx, trivial⟩
  rw [e, ulive_dies _ _ _ _ h1 hd, hlen]
set_option maxRecDepth 100000 in
theorem live_three (r : List UInt8) (h0 : (uscal r).2 = 0) (hk : 3 < r.length) : ¬ Lives 0 (r.take 4) := by
  intro hl
  have hz := uscal_none r h0
  match r, hk with
  | a :: b :: c :: d :: t, _ =>
    have z1 : ufirst a.toNat ≠ 0 := hz 1 (by omega) (by simp)
    have z2 : ustep (ufirst a.toNat) b.toNat ≠ 0 := hz 2 (by omega) (by simp)
    have z3 : ustep (ustep (ufirst a.toNat) b.toNat) c.toNat ≠ 0 := hz 3 (by omega) (by simp)
    have z4 : ustep (ustep (ustep (ufirst a.toNat) b.toNat) c.toNat) d.toNat ≠ 0 := hz 4 (by omega) (by simp)
    obtain ⟨l1, l2, l3, l4, _⟩ := hl
    have l1' : ufirst a.toNat ≠ 8 := l1
    have l2' : ustep (ufirst a.toNat) b.toNat ≠ 8 := l2
    have l3' : ustep (ustep (ufirst a.toNat) b.toNat) c.toNat ≠ 8 := l3
    have l4' : ustep (ustep (ustep (ufirst a.toNat) b.toNat) c.toNat) d.toNat ≠ 8 := l4
    have s2 := second_states (ufirst a.toNat) b.toNat (by have := ufirst_range a.toNat; omega) l2' z2
    have s3 : ustep (ustep (ufirst a.toNat) b.toNat) c.toNat = 1 := by
      rcases s2 with h | h
      · rw [h, ustep_1] at l3' z3; split at l3' <;> simp_all
      · rw [h, ustep_2]; rw [h, ustep_2] at l3'; split at l3' <;> simp_all
    rw [s3, ustep_1] at z4 l4'
    split at l4' <;> simp_all
theorem live_at (l : List UInt8) (k : Nat) (hk : k ≤ l.length) (h : urun 0 (l.take k) = 0) : ulive 0 l = k + ulive 0 (l.drop k) := by
  have := ulive_append 0 (l.take k) (l.drop k) (run_zero_lives _ _ h)
  rw [List.take_append_drop, h] at this
  rw [this]; simp; omega

theorem part_at (s : ByteArray) (a k : Nat) (w : World) (R : Bool) (h0 : a + k < s.size) (h3 : k < 3) (hz : Hid ((uscal (s.data.toList.drop a)).2 = 0)) (hR : Hid (R = true ↔ Lives 0 ((s.data.toList.drop a).take (k + 1)))) :
    Calls Try.prog 21 #[.string (s.extract a (a + k + 1))] w fun e w' => e = .returned (.bool R) ∧ Below w.heap.size w w' := by
  have hd : (s.extract a (a + k + 1)).data.toList = (s.data.toList.drop a).take (k + 1) := by
    rw [Lib.extract_data, show a + k + 1 - a = k + 1 from by omega]
  have hsz : (s.extract a (a + k + 1)).size = k + 1 := by simp; omega
  have hlen : ((s.data.toList.drop a).take (k + 1)).length = k + 1 := by
    have := Lib.size_eq s
    simp; omega
  refine part_any _ w _ (Lib.hid hd) (Lib.hid (by rw [hlen, hsz])) (by omega) (by omega) R (Lib.hid ?_)
  rw [phit_iff _ (by omega) (by omega) (fun j h0 hj => ?_)]
  · exact hR.out
  · rw [hlen] at hj
    rw [List.take_take, Nat.min_eq_left hj]
    refine uscal_none _ hz.out j h0 ?_
    have := Lib.size_eq s
    simp; omega

theorem part_yes (s : ByteArray) (a k : Nat) (w : World) (h0 : a + k < s.size) (h3 : k < 3) (hz : Hid ((uscal (s.data.toList.drop a)).2 = 0)) (hR : Hid (Lives 0 ((s.data.toList.drop a).take (k + 1)))) :
    Calls Try.prog 21 #[.string (s.extract a (a + k + 1))] w fun e w' => e = .returned (.bool true) ∧ Below w.heap.size w w' :=
  part_at s a k w true h0 h3 hz (Lib.hid ⟨fun _ => hR.out, fun _ => rfl⟩)
theorem part_no (s : ByteArray) (a k : Nat) (w : World) (h0 : a + k < s.size) (h3 : k < 3) (hz : Hid ((uscal (s.data.toList.drop a)).2 = 0)) (hR : Hid (¬ Lives 0 ((s.data.toList.drop a).take (k + 1)))) :
    Calls Try.prog 21 #[.string (s.extract a (a + k + 1))] w fun e w' => e = .returned (.bool false) ∧ Below w.heap.size w w' :=
  part_at s a k w false h0 h3 hz (Lib.hid ⟨fun h => absurd h (by decide), fun h => absurd h hR.out⟩)
theorem slice_run (s : ByteArray) (k j : Nat) (h : k + j < s.size) (w : World) :
    (Instr.slice 9 (.string s) (some (.int .i64 (k : Int))) (some (.int .i64 ((k : Int) + (j : Int) + 1))) none).run Try.prog w = .ok (.string (s.extract k (k + j + 1))) w := by
  rw [run_slice_string w 9 s .i64 .i64 (k : Int) ((k : Int) + (j : Int) + 1) Try.underlying9 (by omega) (by omega) (by omega)]
  rw [show ((k : Int)).toNat = k from rfl, show ((k : Int) + (j : Int) + 1).toNat = k + j + 1 from by omega]
theorem live_end (s : ByteArray) (a k : Nat) (hak : a + k ≤ s.size) (h3 : k ≤ 3) (hu : urun 0 (s.data.toList.take a) = 0) (hz : (uscal (s.data.toList.drop a)).2 = 0) (hl : Lives 0 ((s.data.toList.drop a).take k))
    (he : k = 3 ∨ a + k = s.size ∨ ¬ Lives 0 ((s.data.toList.drop a).take (k + 1))) : ulive 0 s.data.toList = a + k := by
  have hsz := Lib.size_eq s
  rw [live_at _ a (by omega) hu]
  congr 1
  have hlen : (s.data.toList.drop a).length = s.size - a := by rw [List.length_drop, ← hsz]
  by_cases hend : a + k = s.size
  · rw [List.take_of_length_le (by omega)] at hl
    rw [ulive_of_lives _ _ hl]; omega
  · rcases he with rfl | he | he
    · exact live_stop _ 3 (by omega) hl (live_three _ hz (by omega))
    · exact absurd he hend
    · exact live_stop _ k (by omega) hl he

set_option maxRecDepth 100000 in
set_option maxHeartbeats 1000000 in
theorem rlive_any (s : ByteArray) (w : World) (hs : s.size ≤ maxLen) (V : Nat) (hV : Hid (ulive 0 s.data.toList = V)) :
    Calls Try.prog 15 #[.string s] w fun e w' => e = .returned (.int .i64 (V : Nat)) ∧ Below w.heap.size w w' := by
  have hsz : Hid (s.size = s.data.toList.length) := Lib.hid (Lib.size_eq s)
  unfold maxLen at hs
  go_enter Try.func15, Try.ntmps15
  go_wp2_with fail
  go_loopg [3] s.size (fun g v wr => ∃ k : Nat, k ≤ s.size ∧ g = s.size - k ∧ v = .int .i64 k ∧ Hid (urun 0 (s.data.toList.take k) = 0) ∧ Hid (Below w.heap.size w wr))
  case atStart => exact ⟨0, Nat.zero_le _, rfl, rfl, Lib.hid rfl, Lib.hid (Below.refl _ _)⟩
  case round =>
    obtain ⟨k, hk, rfl, rfl, hU, hB⟩ := hrel
    by_cases hgo : k < s.size ∧ (uscal (s.data.toList.drop k)).2 ≠ 0
    · obtain ⟨hlt, hne⟩ := hgo
      obtain ⟨c, n, hcn⟩ : ∃ c n, uscal (s.data.toList.drop k) = (c, n) := ⟨_, _, rfl⟩
      have HC := Lib.hid hcn
      have hdl : Hid ((s.data.toList.drop k).length = s.size - k) := Lib.hid (by rw [List.length_drop, ← hsz.out])
      have hn : n ≠ 0 := by rw [hcn] at hne; exact hne
      have hsm := uscal_some (s.data.toList.drop k) hne
      rw [HC.out, hdl.out] at hsm
      clear hcn hne
      have hn' : ((n : Int) == 0) = false := by rw [beq_eq_false_iff_ne]; omega
      have hle : k + n ≤ s.size := by have := hsm.1; simp only at this; omega
      have HT : Hid (urun 0 (s.data.toList.take (k + n)) = 0) := Lib.hid (by rw [run_take _ _ _ hU.out]; exact hsm.2.1)
      clear hsm
      go_wp2_with fail
      refine (rscalar_at _ _ _ _ _ HC).mono ?_; rintro e w2 ⟨rfl, hb2⟩
      have HB2 := Lib.hid (bthen5 hB.out hb2)
      clear hb2
      go_wp2_with fail
      go_roundg (s.size - (k + n))
      case measure => go_light; omega
      case rel => go_light; exact ⟨k + n, hle, rfl, by simp, HT, HB2⟩
    · have HZ : Hid ((uscal (s.data.toList.drop k)).2 = 0) := Lib.hid (by
        by_cases hx : (uscal (s.data.toList.drop k)).2 = 0
        · exact hx
        · have : s.size ≤ k := by
            by_cases hy : k < s.size
            · exact absurd ⟨hy, hx⟩ hgo
            · omega
          rw [List.drop_of_length_le (by rw [← hsz.out]; exact this)]; rfl)
      obtain ⟨c, hcn⟩ : ∃ c, uscal (s.data.toList.drop k) = (c, 0) := ⟨_, Prod.ext rfl HZ.out⟩
      have HC := Lib.hid hcn
      clear hcn hgo
      by_cases hlt : k < s.size
      all_goals
        go_wp2_with (go_at_call 17; refine (rscalar_at _ _ _ _ _ HC).mono ?_; rintro e w2 ⟨rfl, hb2⟩; have HB2 := Lib.hid (bthen5 hB.out hb2); clear hb2)
        go_loopg [6] 3 (fun g v wx => ∃ j : Nat, j ≤ 3 ∧ k + j ≤ s.size ∧ g = 3 - j ∧ v = .int .i64 j ∧ Hid (Lives 0 ((s.data.toList.drop k).take j)) ∧ Hid (Below w.heap.size w wx))
        case atStart => exact ⟨0, by omega, by omega, rfl, rfl, Lib.hid trivial, by first | exact HB2 | exact hB⟩
        case round =>
          clear hB
          obtain ⟨j, hj3, hkj, rfl, rfl, hL, hB⟩ := hrel
          by_cases hj : j < 3
          · have hdj : decide ((j : Int) < 3) = true := by rw [decide_eq_true_eq]; omega
            by_cases hks : k + j < s.size
            · have hsr := fun wx => slice_run s k j hks wx
              have hdk : decide ((k : Int) + (j : Int) < (s.size : Int)) = true := by rw [decide_eq_true_eq]; omega
              by_cases hnext : Lives 0 ((s.data.toList.drop k).take (j + 1))
              · have HN := Lib.hid hnext
                clear hnext
                go_wp2_with fail
                refine (part_yes _ _ _ _ hks hj HZ HN).mono ?_; rintro e w3 ⟨rfl, hb3⟩
                have HB3 := Lib.hid (bthen5 hB.out hb3)
                clear hb3
                go_wp2_with fail
                go_roundg (3 - (j + 1))
                case measure => go_light; omega
                case rel => go_light; exact ⟨j + 1, by omega, by omega, by omega, by go_num, HN, HB3⟩
              · have HN := Lib.hid hnext
                have HE : Hid (V = k + j) := Lib.hid (by rw [← hV.out]; exact live_end s k j hkj hj3 hU.out HZ.out hL.out (.inr (.inr hnext)))
                clear hnext
                go_wp2_with fail
                refine (part_no _ _ _ _ hks hj HZ HN).mono ?_; rintro e w3 ⟨rfl, hb3⟩
                have HB3 := Lib.hid (bthen5 hB.out hb3)
                clear hb3
                go_wp2_with fail
                go_ret
                exact ⟨ret_i64 (by rw [HE.out]; simp), HB3.out⟩
            · have hdk : decide ((k : Int) + (j : Int) < (s.size : Int)) = false := by rw [decide_eq_false_iff_not]; omega
              have HE : Hid (V = k + j) := Lib.hid (by rw [← hV.out]; exact live_end s k j hkj hj3 hU.out HZ.out hL.out (.inr (.inl (by omega))))
              go_wp2_with fail
              go_ret
              exact ⟨ret_i64 (by rw [HE.out]; simp), hB.out⟩
          · have hdj : decide ((j : Int) < 3) = false := by rw [decide_eq_false_iff_not]; omega
            have HE : Hid (V = k + j) := Lib.hid (by rw [← hV.out]; exact live_end s k j hkj hj3 hU.out HZ.out hL.out (.inl (by omega)))
            go_wp2_with fail
            go_ret
            exact ⟨ret_i64 (by rw [HE.out]; simp), hB.out⟩

theorem lives_walk (s : ByteArray) (w : World) (hs : s.size ≤ maxLen) :
    Calls Try.prog 4 #[.string s] w fun e w' => e = .returned (.bool true) ∧ Below w.heap.size w w' := by
  by_cases h1 : 300 < s.size
  · go_enter Try.func4, Try.ntmps4
    go_wp2_with (go_at_call 9; refine (awake_any _).mono ?_; rintro e w1 ⟨rfl, hb1⟩)
    go_ret
    exact ⟨rfl, bthen5 (by assumption) hb1⟩
  · go_enter Try.func4, Try.ntmps4
    go_wp2_with fail
    refine (awake_any _).mono ?_; rintro e w1 ⟨rfl, hb1⟩
    go_wp2_with fail
    refine (right_any _ _ hs).mono ?_; rintro e w' ⟨rfl, rfl⟩
    go_wp2_with fail
    refine (rright_any _ _ hs).mono ?_; rintro e w2 ⟨rfl, hb2⟩
    go_wp2_with fail
    refine (live_any _ _ hs).mono ?_; rintro e w' ⟨rfl, rfl⟩
    go_wp2_with fail
    refine (rlive_any _ _ hs _ (Lib.hid rfl)).mono ?_; rintro e w3 ⟨rfl, hb3⟩
    go_wp2_with fail
    go_ret
    exact ⟨rfl, bthen5 (bthen5 hb1 hb2) hb3⟩
end Go.Proofs.Ytghfinkckdbamaa
