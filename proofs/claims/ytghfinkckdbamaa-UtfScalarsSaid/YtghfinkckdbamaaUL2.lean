/- The walks of the laws UtfTwo and UtfLong. -/
import Derived.Test.YtghfinkckdbamaaUW4
import Derived.Test.YtghfinkckdbamaaUW3
namespace Go.Proofs.Ytghfinkckdbamaa
open Go.RowKit Go.Proofs.Lw

theorem run_zero_lives (l : List UInt8) (st : Int) (h : urun st l = 0) : Lives st l := by
  induction l generalizing st with
  | nil => trivial
  | cons b l ih =>
    rw [urun] at h
    refine ⟨?_, ih _ h⟩
    intro h8
    rw [h8, urun_dead] at h
    exact absurd h (by decide)

theorem live_to (s : ByteArray) (n : Nat) (w : World) (hs : s.size ≤ maxLen) (h : Hid (ulive 0 s.data.toList = n)) :
    Calls Try.prog 14 #[.string s] w fun e w' => e = .returned (.int .i64 (n : Nat)) ∧ w = w' := by
  rw [← h.out]; exact live_any s w hs
theorem right_to (s : ByteArray) (b : Bool) (w : World) (hs : s.size ≤ maxLen) (h : Hid (uright s.data.toList = b)) :
    Calls Try.prog 12 #[.string s] w fun e w' => e = .returned (.bool b) ∧ w = w' := by
  rw [← h.out]; exact right_any s w hs
theorem bthen {w w1 w2 : World} (h : Below w.heap.size w w1) (k : Below w1.heap.size w1 w2) : Below w.heap.size w w2 := h.trans (k.mono h.size)

theorem two_walk (s t : ByteArray) (w : World) (hs : s.size ≤ maxLen) (_ht : t.size ≤ maxLen) :
    Calls Try.prog 6 #[.string s, .string t] w fun e w' => e = .returned (.bool true) ∧ Below w.heap.size w w' := by
  have hbig : (300 : Nat) ≤ maxLen := by unfold maxLen; omega
  by_cases h1 : 150 < s.size
  · go_enter Try.func6, Try.ntmps6
    go_wp2_with (go_at_call 9; refine (awake_any _).mono ?_; rintro e w1 ⟨rfl, hb1⟩)
    go_ret
    exact ⟨rfl, bthen (by assumption) hb1⟩
  · by_cases h2 : 150 < t.size
    · go_enter Try.func6, Try.ntmps6
      go_wp2_with (go_at_call 9; refine (awake_any _).mono ?_; rintro e w1 ⟨rfl, hb1⟩)
      go_ret
      exact ⟨rfl, bthen (by assumption) hb1⟩
    · have hst : (s ++ t).size ≤ maxLen := by simp; omega
      cases h3 : uright s.data.toList
      · have H3 := Lib.hid h3
        clear h3
        go_enter Try.func6, Try.ntmps6
        go_wp2_with fail
        refine (awake_any _).mono ?_; rintro e w1 ⟨rfl, hb1⟩
        go_wp2_with fail
        refine (right_to _ false _ hs H3).mono ?_; rintro e w' ⟨rfl, rfl⟩
        go_wp2_with fail
        refine (awake_any _).mono ?_; rintro e w2 ⟨rfl, hb2⟩
        go_wp2_with fail
        go_ret
        exact ⟨rfl, bthen hb1 hb2⟩
      · have h0 : urun 0 s.data.toList = 0 := by simpa [uright] using h3
        have hle : ulive 0 t.data.toList ≤ t.size := ulive_le 0 t.data.toList
        have H3 := Lib.hid h3
        have HL : Hid (ulive 0 (s ++ t).data.toList = s.size + ulive 0 t.data.toList) := Lib.hid (by
          rw [ByteArray.data_append, Array.toList_append, ulive_append 0 _ _ (run_zero_lives _ _ h0), h0]; rfl)
        have HR : Hid (uright (s ++ t).data.toList = uright t.data.toList) := Lib.hid (by simp [uright, urun_append, h0])
        clear h0 h3
        go_enter Try.func6, Try.ntmps6
        go_wp2_with fail
        refine (awake_any _).mono ?_; rintro e w1 ⟨rfl, hb1⟩
        go_wp2_with fail
        refine (right_to _ true _ hs H3).mono ?_; rintro e w' ⟨rfl, rfl⟩
        go_wp2_with fail
        refine (live_to _ _ _ hst HL).mono ?_; rintro e w' ⟨rfl, rfl⟩
        go_wp2_with fail
        refine (live_any _ _ (by omega)).mono ?_; rintro e w' ⟨rfl, rfl⟩
        go_wp2_with fail
        refine (right_to _ _ _ hst HR).mono ?_; rintro e w' ⟨rfl, rfl⟩
        go_wp2_with fail
        refine (right_any _ _ (by omega)).mono ?_; rintro e w' ⟨rfl, rfl⟩
        go_wp2_with fail
        go_ret
        exact ⟨rfl, hb1⟩

theorem long_walk (s : ByteArray) (w : World) (hs : s.size ≤ maxLen) :
    Calls Try.prog 5 #[.string s] w fun e w' => e = .returned (.bool true) ∧ Below w.heap.size w w' := by
  by_cases h1 : 300 < s.size
  · go_enter Try.func5, Try.ntmps5
    go_wp2_with (go_at_call 9; refine (awake_any _).mono ?_; rintro e w1 ⟨rfl, hb1⟩)
    go_ret
    exact ⟨rfl, bthen (by assumption) hb1⟩
  · go_enter Try.func5, Try.ntmps5
    go_wp2_with fail
    refine (awake_any _).mono ?_; rintro e w1 ⟨rfl, hb1⟩
    go_wp2_with fail
    go_loop [3, 4] (fun st i => ∃ k : Nat, k ≤ s.size ∧ Lives 0 (s.data.toList.take k) ∧ st = .int .i64 (urun 0 (s.data.toList.take k)) ∧ i = .int .i64 k) (fun _ i => s.size - (intOf i).toNat)
    case atStart => exact ⟨0, Nat.zero_le _, trivial, rfl, rfl⟩
    case round =>
      obtain ⟨k, hk, hl, rfl, rfl⟩ := hrel
      have HL := Lib.hid hl
      clear hl
      by_cases hlt : k < s.size
      · have hb := u8_le s[k]
        have HS := Lib.hid (urun_snoc 0 s k hlt)
        have HV := Lib.hid (lives_snoc 0 s k hlt)
        by_cases hd : ustep (urun 0 (s.data.toList.take k)) s[k].toNat = 8
        · have hda := dies_at s k hlt HL.out hd
          have HD1 := Lib.hid hda.1
          have HD2 : Hid (uright s.data.toList = false) := Lib.hid (by rw [uright, hda.2]; rfl)
          clear hda
          go_wp2_with fail
          refine (step_any _ _ _ (by omega) (by omega)).mono ?_; rintro e w' ⟨rfl, rfl⟩
          go_wp2_with fail
          refine (live_to _ _ _ hs HD1).mono ?_; rintro e w' ⟨rfl, rfl⟩
          go_wp2_with fail
          refine (right_to _ _ _ hs HD2).mono ?_; rintro e w' ⟨rfl, rfl⟩
          go_wp2_with fail
          go_ret
          exact ⟨rfl, hb1⟩
        · have hd' : (ustep (urun 0 (s.data.toList.take k)) s[k].toNat == 8) = false := beq_eq_false_iff_ne.2 hd
          have HD := Lib.hid hd
          clear hd
          go_wp2_with fail
          refine (step_any _ _ _ (by omega) (by omega)).mono ?_; rintro e w' ⟨rfl, rfl⟩
          go_wp2_with fail
          go_round
          case rel => exact ⟨k + 1, by omega, HV.out.2 ⟨HL.out, HD.out⟩, by rw [HS.out], by go_num⟩
          case measure => simp [intOf]; omega
      · have HS := Lib.hid (lives_all s k (by omega) HL.out)
        have HR : Hid (uright s.data.toList = (urun 0 (s.data.toList.take k) == 0)) := Lib.hid (by rw [List.take_of_length_le (by simp; omega)]; rfl)
        go_wp2_with fail
        refine (live_to _ _ _ hs HS).mono ?_; rintro e w' ⟨rfl, rfl⟩
        go_wp2_with fail
        refine (right_to _ _ _ hs HR).mono ?_; rintro e w' ⟨rfl, rfl⟩
        go_wp2_with fail
        go_ret
        exact ⟨rfl, hb1⟩
end Go.Proofs.Ytghfinkckdbamaa
