/- The walk of the law UtfBack. -/
import Derived.Test.YtghfinkckdbamaaUW5
import Derived.Test.YtghfinkckdbamaaUW3
import Derived.Test.YtghfinkckdbamaaUPlain5
import Derived.Lib.Strings
namespace Go.Proofs.Ytghfinkckdbamaa
open Go.RowKit Go.Proofs.Lw

theorem live_to2 (s : ByteArray) (n : Nat) (w : World) (hs : s.size ≤ maxLen) (h : Hid (ulive 0 s.data.toList = n)) :
    Calls Try.prog 14 #[.string s] w fun e w' => e = .returned (.int .i64 (n : Nat)) ∧ w = w' := by
  rw [← h.out]; exact live_any s w hs
theorem right_to2 (s : ByteArray) (b : Bool) (w : World) (hs : s.size ≤ maxLen) (h : Hid (uright s.data.toList = b)) :
    Calls Try.prog 12 #[.string s] w fun e w' => e = .returned (.bool b) ∧ w = w' := by
  rw [← h.out]; exact right_any s w hs
theorem scalar_to2 (s : ByteArray) (c : Int) (n : Nat) (w : World) (hs : s.size ≤ maxLen) (h : Hid (uscal s.data.toList = (c, n))) :
    Calls Try.prog 16 #[.string s] w fun e w' => e = .returned (.tuple #[.int .i64 c, .int .i64 n]) ∧ w = w' := by
  have := scalar_any s w hs
  rw [h.out] at this; exact this
theorem put_to2 (c : Int) (P : ByteArray) (w : World) (h : Hid (strOfNums (putN c) = P)) :
    Calls Try.prog 18 #[.int .i64 c] w fun e w' => e = .returned (.string P) ∧ Below w.heap.size w w' := by
  rw [← h.out]; exact put_any c w
theorem bthen2 {w w1 w2 : World} (h : Below w.heap.size w w1) (k : Below w1.heap.size w1 w2) : Below w.heap.size w w2 := h.trans (k.mono h.size)

theorem back_none (c : Int) (B : ByteArray) (w : World) (hB : B.size ≤ 100) (h : c < 0 ∨ 1114111 < c ∨ 55296 ≤ c ∧ c ≤ 57343) (hp : Hid (strOfNums (putN c) = ByteArray.empty)) :
    Calls Try.prog 8 #[.int .i64 c, .string B] w fun e w' => e = .returned (.bool true) ∧ Below w.heap.size w w' := by
  rcases h with h | h | ⟨h, h'⟩
  all_goals
    go_enter Try.func8, Try.ntmps8
    go_wp2_with fail
    refine (awake_any _).mono ?_; rintro e w1 ⟨rfl, hb1⟩
    go_wp2_with fail
    refine (put_to2 _ _ _ hp).mono ?_; rintro e w2 ⟨rfl, hb2⟩
    go_wp2_with fail
    go_ret
    exact ⟨rfl, bthen2 hb1 hb2⟩

theorem back_some (c : Int) (B P : ByteArray) (w : World) (hB : B.size ≤ 100) (h : putL c ≠ []) (hp : Hid (strOfNums (putN c) = P)) (hd : Hid (P.data.toList = putL c)) (hs : P.size ≤ 4) (hs0 : 0 < P.size) :
    Calls Try.prog 8 #[.int .i64 c, .string B] w fun e w' => e = .returned (.bool true) ∧ Below w.heap.size w w' := by
  have hbig : (300 : Nat) ≤ maxLen := by unfold maxLen; omega
  have hsz : Hid ((putL c).length = P.size) := Lib.hid (by rw [← hd.out]; rfl)
  have hPB : (P ++ B).size ≤ maxLen := by simp; omega
  have hne : P.toList.isEmpty = false := by
    rw [Lib.toList_data, hd.out]; cases hx : putL c with
    | nil => exact absurd hx h
    | cons a l => rfl
  have HU : Hid (uscal (P ++ B).data.toList = (c, P.size)) := Lib.hid (by
    rw [ByteArray.data_append, Array.toList_append, hd.out, uscal_put c _ h, hsz.out])
  have HR : Hid (uright P.data.toList = true) := Lib.hid (by rw [hd.out]; exact put_right c h)
  have HN := Lib.hid h
  clear h
  go_enter Try.func8, Try.ntmps8
  go_wp2_with fail
  refine (awake_any _).mono ?_; rintro e w1 ⟨rfl, hb1⟩
  go_wp2_with fail
  refine (put_to2 _ _ _ hp).mono ?_; rintro e w2 ⟨rfl, hb2⟩
  go_wp2_with fail
  refine (scalar_to2 _ _ _ _ hPB HU).mono ?_; rintro e w' ⟨rfl, rfl⟩
  go_wp2_with fail
  refine (right_to2 _ _ _ (by omega) HR).mono ?_; rintro e w' ⟨rfl, rfl⟩
  go_wp2_with fail
  go_loop [8] (fun i => ∃ k : Nat, 1 ≤ k ∧ k ≤ P.size ∧ i = .int .i64 k) (fun i => P.size - (intOf i).toNat)
  case atStart => exact ⟨1, by omega, by omega, rfl⟩
  case round =>
    obtain ⟨k, hk1, hk, rfl⟩ := hrel
    by_cases hlt : k < P.size
    · have hx : (P.extract 0 k).size ≤ maxLen := by simp; omega
      have hxd : Hid ((P.extract 0 k).data.toList = (putL c).take k) := Lib.hid (by rw [Lib.extract_data, hd.out]; rfl)
      have hbg := put_begin c HN.out k (by omega) (by rw [hsz.out]; exact hlt)
      have HL : Hid (ulive 0 (P.extract 0 k).data.toList = k) := Lib.hid (by rw [hxd.out]; exact hbg.1)
      have HW : Hid (uright (P.extract 0 k).data.toList = false) := Lib.hid (by rw [hxd.out]; exact hbg.2)
      clear hbg
      go_wp2_with fail
      refine (live_to2 _ _ _ hx HL).mono ?_; rintro e w' ⟨rfl, rfl⟩
      go_wp2_with fail
      refine (right_to2 _ _ _ hx HW).mono ?_; rintro e w' ⟨rfl, rfl⟩
      go_wp2_with fail
      go_round
      case rel => exact ⟨k + 1, by omega, by omega, by go_num⟩
      case measure => simp [intOf]; omega
    · go_wp2_with fail
      go_ret
      exact ⟨rfl, bthen2 hb1 hb2⟩

theorem back_walk (c : Int) (B : ByteArray) (w : World) :
    Calls Try.prog 8 #[.int .i64 c, .string B] w fun e w' => e = .returned (.bool true) ∧ Below w.heap.size w w' := by
  by_cases h1 : 100 < B.size
  · go_enter Try.func8, Try.ntmps8
    go_wp2_with (go_at_call 9; refine (awake_any _).mono ?_; rintro e w1 ⟨rfl, hb1⟩)
    go_ret
    exact ⟨rfl, bthen2 (by assumption) hb1⟩
  · have hdat : (strOfNums (putN c)).data.toList = putL c := strOfNums_data _
    by_cases h : putL c = []
    · have hp : strOfNums (putN c) = ByteArray.empty := by
        have h2 : putN c = [] := List.map_eq_nil_iff.1 h
        rw [h2]; rfl
      exact back_none c B w (by omega) ((putL_none c).1 h) (Lib.hid hp)
    · have hlen : (strOfNums (putN c)).size = (putL c).length := by rw [← hdat]; rfl
      have h4 : (putL c).length ≤ 4 := by unfold putL putN; (repeat' split) <;> simp
      have h0 : (putL c).length ≠ 0 := fun x => h (List.eq_nil_of_length_eq_zero x)
      exact back_some c B _ w (by omega) h (Lib.hid rfl) (Lib.hid hdat) (by omega) (by omega)
end Go.Proofs.Ytghfinkckdbamaa
