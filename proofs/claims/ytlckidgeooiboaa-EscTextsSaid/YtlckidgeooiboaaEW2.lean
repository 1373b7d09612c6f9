/- The walks of HasPrefix, units. -/
import Derived.Test.YtlckidgeooiboaaEW1
import Derived.Lib.Strings
namespace Go.Proofs.Ytlckidgeooiboaa
open Go.RowKit Go.Proofs.Lw Go.Proofs.Le
set_option linter.unusedVariables false

theorem take_cmp (s p : ByteArray) (R : Bool) (hR : R = true ↔ s.data.toList.take p.size = p.data.toList) : ((s.extract 0 p.size).toList == p.toList) = R := by
  rw [ByteArray.toList_eq, ByteArray.toList_eq, Lib.extract_data, List.drop_zero, Nat.sub_zero]
  cases R
  · rw [beq_eq_false_iff_ne]; exact fun h => absurd (hR.2 h) (by decide)
  · rw [beq_iff_eq]; exact hR.1 rfl
theorem hp_short {s p : ByteArray} {R : Bool} (h : s.size < p.size) (hR : R = true ↔ s.data.toList.take p.size = p.data.toList) : R = false := by
  cases R
  · rfl
  · have := congrArg List.length (hR.1 rfl)
    rw [List.length_take] at this
    have h1 : s.data.toList.length = s.size := (Lib.size_eq s).symm
    have h2 : p.data.toList.length = p.size := (Lib.size_eq p).symm
    omega
set_option maxRecDepth 100000 in
theorem hp35_any (s p : ByteArray) (R : Bool) (w : World) (hs : s.size ≤ maxLen) (hp : p.size ≤ maxLen) (hR : Hid (R = true ↔ s.data.toList.take p.size = p.data.toList)) :
    Calls Try.prog 35 #[.string s, .string p] w fun e w' => e = .returned (.bool R) ∧ w = w' := by
  unfold maxLen at hs hp
  by_cases hl : s.size < p.size
  · have hRf := Lib.hid (hp_short hl hR.out)
    have h1 : ¬ (p.size : Int) ≤ (s.size : Int) := by omega
    go_enter Try.func35, Try.ntmps35
    go_wp2_with fail
    go_ret
    exact ⟨by rw [hRf.out]; rfl, rfl⟩
  · have h1 : (p.size : Int) ≤ (s.size : Int) := by omega
    have hc := take_cmp s p R hR.out
    go_enter Try.func35, Try.ntmps35
    go_wp2_with fail
    go_ret
    exact ⟨by rw [← hc]; rfl, rfl⟩
theorem hp_any (s p : ByteArray) (R : Bool) (w : World) (hs : s.size ≤ maxLen) (hp : p.size ≤ maxLen) (hR : Hid (R = true ↔ s.data.toList.take p.size = p.data.toList)) :
    Calls Try.prog 26 #[.string s, .string p] w fun e w' => e = .returned (.bool R) ∧ w = w' := by
  go_enter Try.func26, Try.ntmps26
  go_wp2_with (go_at_call 35; refine (hp35_any s p R _ hs hp hR).mono ?_; rintro e w' ⟨rfl, rfl⟩)
  go_ret
  exact ⟨rfl, rfl⟩

theorem bool_of (p : Prop) : ∃ R : Bool, R = true ↔ p := by
  by_cases h : p
  · exact ⟨true, by simp [h]⟩
  · exact ⟨false, by simp [h]⟩
theorem unitP_long (l : List UInt8) (h : 0 ≤ unitP l) : 4 ≤ l.length := by
  unfold unitP at h
  split at h
  · omega
  · omega
theorem unit_at (s : ByteArray) (k : Nat) (R : Int) (w : World) (hs : s.size ≤ maxLen) (hR : Hid (unitP (s.data.toList.drop k) = R)) :
    Calls Try.prog 45 #[.string (s.extract k s.size)] w fun e w' => e = .returned (.int .i64 R) ∧ w = w' := by
  refine unit_any _ R w (by simp; omega) (Lib.hid ?_)
  rw [Lib.extract_data, List.take_of_length_le (by simp)]; exact hR.out
theorem hp_at (s : ByteArray) (k : Nat) (p : ByteArray) (R : Bool) (w : World) (hs : s.size ≤ maxLen) (hp : p.size ≤ maxLen) (hR : Hid (R = true ↔ (s.data.toList.drop k).take p.size = p.data.toList)) :
    Calls Try.prog 26 #[.string (s.extract k s.size), .string p] w fun e w' => e = .returned (.bool R) ∧ w = w' := by
  refine hp_any _ p R w (by simp; omega) hp (Lib.hid ?_)
  rw [Lib.extract_data, List.take_of_length_le (l := List.drop k _) (by simp)]; exact hR.out
theorem hp_yes (s : ByteArray) (k : Nat) (p : ByteArray) (w : World) (hs : s.size ≤ maxLen) (hp : p.size ≤ maxLen) (h : Hid ((s.data.toList.drop k).take p.size = p.data.toList)) :
    Calls Try.prog 26 #[.string (s.extract k s.size), .string p] w fun e w' => e = .returned (.bool true) ∧ w = w' := hp_at s k p true w hs hp (Lib.hid ⟨fun _ => h.out, fun _ => rfl⟩)
theorem hp_no (s : ByteArray) (k : Nat) (p : ByteArray) (w : World) (hs : s.size ≤ maxLen) (hp : p.size ≤ maxLen) (h : Hid (¬ (s.data.toList.drop k).take p.size = p.data.toList)) :
    Calls Try.prog 26 #[.string (s.extract k s.size), .string p] w fun e w' => e = .returned (.bool false) ∧ w = w' := hp_at s k p false w hs hp (Lib.hid ⟨fun h' => absurd h' (by decide), fun h' => absurd h' h.out⟩)
theorem ret_two {a b : Int} {m n : Int} (h : a = b) (h2 : m = n) : Ending.returned (.tuple #[.int .i64 a, .int .i64 m]) = .returned (.tuple #[.int .i64 b, .int .i64 n]) := by rw [h, h2]
set_option maxRecDepth 100000 in
set_option maxHeartbeats 1000000 in
theorem units_any (s : ByteArray) (R : Int) (M : Nat) (w : World) (hs : s.size ≤ maxLen) (h2 : 2 ≤ s.size) (hR : Hid (unitsP s.data.toList = (R, M))) :
    Calls Try.prog 39 #[.string s] w fun e w' => e = .returned (.tuple #[.int .i64 R, .int .i64 (M : Nat)]) ∧ w = w' := by
  have hsz : Hid (s.size = s.data.toList.length) := Lib.hid (Lib.size_eq s)
  obtain ⟨a, ha⟩ : ∃ a, Hid (unitP (s.data.toList.drop 2) = a) := ⟨_, Lib.hid rfl⟩
  have hab := unitP_bd (s.data.toList.drop 2)
  rw [ha.out] at hab
  by_cases hd : a < 55296 ∨ 57343 < a
  · have HR : Hid (a = R ∧ (6 : Int) = (M : Nat)) := Lib.hid (by
      have := hR.out
      rw [unitsP, ha.out, if_pos hd] at this
      simp only [Prod.mk.injEq] at this
      exact ⟨this.1, by omega⟩)
    have hd' : a < 55296 ∨ ¬ a < 55296 ∧ 57343 < a := by omega
    clear hd
    go_enter Try.func39, Try.ntmps39
    go_wp2_with fail
    refine (unit_at s 2 a _ hs ha).mono ?_; rintro e w' ⟨rfl, rfl⟩
    rcases hd' with hd | ⟨hd, hd1⟩
    · go_wp2_with fail
      go_ret2
      exact ⟨ret_two HR.out.1 HR.out.2, rfl⟩
    · go_wp2_with fail
      go_ret2
      exact ⟨ret_two HR.out.1 HR.out.2, rfl⟩
  · have h6 : 6 ≤ s.size := by
      have h4 := unitP_long (s.data.toList.drop 2) (by rw [ha.out]; omega)
      rw [List.length_drop, ← hsz.out] at h4; omega
    have h6' : (6 : Int) ≤ (s.size : Int) := by omega
    have hd0 : ¬ a < 55296 := by omega
    have hd1 : ¬ 57343 < a := by omega
    by_cases hlo : a < 56320
    case neg =>
      have HR : Hid ((65533 : Int) = R ∧ (6 : Int) = (M : Nat)) := Lib.hid (by
        have := hR.out
        rw [unitsP, ha.out, if_neg hd, if_neg (by omega)] at this
        simp only [Prod.mk.injEq] at this
        exact ⟨this.1, by omega⟩)
      clear hd
      go_enter Try.func39, Try.ntmps39
      go_wp2_with fail
      refine (unit_at s 2 a _ hs ha).mono ?_; rintro e w' ⟨rfl, rfl⟩
      go_wp2_with fail
      go_ret2
      exact ⟨ret_two HR.out.1 HR.out.2, rfl⟩
    case pos =>
    by_cases hPv : (s.data.toList.drop 6).take 2 = [92, 117]
    case neg =>
      have HP : Hid (¬ (s.data.toList.drop 6).take (⟨#[92, 117]⟩ : ByteArray).size = (⟨#[92, 117]⟩ : ByteArray).data.toList) := Lib.hid hPv
      have HR : Hid ((65533 : Int) = R ∧ (6 : Int) = (M : Nat)) := Lib.hid (by
        have hl : lowP (s.data.toList.drop 6) = -1 := if_neg hPv
        have := hR.out
        rw [unitsP, ha.out, if_neg hd, hl, if_neg (by omega)] at this
        simp only [Prod.mk.injEq] at this
        exact ⟨this.1, by omega⟩)
      clear hPv hd
      go_enter Try.func39, Try.ntmps39
      go_wp2_with fail
      refine (unit_at s 2 a _ hs ha).mono ?_; rintro e w' ⟨rfl, rfl⟩
      go_wp2_with fail
      refine (hp_no s 6 ⟨#[92, 117]⟩ _ hs (by decide) HP).mono ?_; rintro e w' ⟨rfl, rfl⟩
      go_wp2_with fail
      go_ret2
      exact ⟨ret_two HR.out.1 HR.out.2, rfl⟩
    case pos =>
      have HP : Hid ((s.data.toList.drop 6).take (⟨#[92, 117]⟩ : ByteArray).size = (⟨#[92, 117]⟩ : ByteArray).data.toList) := Lib.hid hPv
      have hl : lowP (s.data.toList.drop 6) = unitP ((s.data.toList.drop 6).drop 2) := if_pos hPv
      have h8 : 2 ≤ (s.extract 6 s.size).size := by
        have := congrArg List.length hPv
        rw [List.length_take, List.length_drop, ← hsz.out] at this
        simp at this ⊢; omega
      have h8' : (2 : Int) ≤ ((s.extract 6 s.size).size : Int) := by omega
      obtain ⟨b, hb⟩ : ∃ b, Hid (unitP ((s.extract 6 s.size).extract 2 (s.size - 6)).data.toList = b) := ⟨_, Lib.hid rfl⟩
      have hbb : unitP ((s.data.toList.drop 6).drop 2) = b := by
        have := hb.out
        rw [Lib.extract_data, Lib.extract_data, List.take_of_length_le (l := List.drop 6 _) (by simp), List.take_of_length_le (l := List.drop 2 _) (by simp; omega)] at this; exact this
      have hbd := unitP_bd ((s.data.toList.drop 6).drop 2)
      rw [hbb] at hbd
      have hxs : ((s.extract 6 s.size).extract 2 (s.size - 6)).size ≤ maxLen := by simp; omega
      have HX : Hid (if 56320 ≤ b ∧ b ≤ 57343 then (65536 + (a - 55296) * 1024 + (b - 56320), 12) = (R, M) else ((65533 : Int), 6) = (R, M)) := Lib.hid (by
        have := hR.out
        rw [unitsP, ha.out, if_neg hd, hl, hbb] at this
        split
        · rename_i h; rw [if_pos ⟨hlo, h⟩] at this; exact this
        · rename_i h; rw [if_neg (fun h' => h h'.2)] at this; exact this)
      clear hPv hd hl hbb
      by_cases hin : 56320 ≤ b ∧ b ≤ 57343
      · have HR : Hid (65536 + (a - 55296) * 1024 + (b - 56320) = R ∧ (12 : Int) = (M : Nat)) := Lib.hid (by
          have := HX.out
          rw [if_pos hin] at this
          simp only [Prod.mk.injEq] at this
          exact ⟨this.1, by omega⟩)
        obtain ⟨i1, i2⟩ := hin
        have hA : bits .and .i64 a 1023 = a - 55296 := by
          have h := i64_and_pow a 10 1023 (by decide) (by decide) (by omega) (by omega)
          exact (show bits .and .i64 a 1023 = a % ((1023 + 1 : Nat) : Int) from h).trans (by omega)
        have hB : bits .and .i64 b 1023 = b - 56320 := by
          have h := i64_and_pow b 10 1023 (by decide) (by decide) (by omega) (by omega)
          exact (show bits .and .i64 b 1023 = b % ((1023 + 1 : Nat) : Int) from h).trans (by omega)
        go_enter Try.func39, Try.ntmps39
        go_wp2_with fail
        refine (unit_at s 2 a _ hs ha).mono ?_; rintro e w' ⟨rfl, rfl⟩
        go_wp2_with fail
        refine (hp_yes s 6 ⟨#[92, 117]⟩ _ hs (by decide) HP).mono ?_; rintro e w' ⟨rfl, rfl⟩
        go_wp2_with fail
        refine (unit_any _ b _ hxs hb).mono ?_; rintro e w' ⟨rfl, rfl⟩
        go_wp2_with fail
        go_ret2
        exact ⟨ret_two HR.out.1 HR.out.2, rfl⟩
      · have HR : Hid ((65533 : Int) = R ∧ (6 : Int) = (M : Nat)) := Lib.hid (by
          have := HX.out
          rw [if_neg hin] at this
          simp only [Prod.mk.injEq] at this
          exact ⟨this.1, by omega⟩)
        have hin' : ¬ 56320 ≤ b ∨ 56320 ≤ b ∧ ¬ b ≤ 57343 := by omega
        clear hin
        go_enter Try.func39, Try.ntmps39
        go_wp2_with fail
        refine (unit_at s 2 a _ hs ha).mono ?_; rintro e w' ⟨rfl, rfl⟩
        go_wp2_with fail
        refine (hp_yes s 6 ⟨#[92, 117]⟩ _ hs (by decide) HP).mono ?_; rintro e w' ⟨rfl, rfl⟩
        go_wp2_with fail
        refine (unit_any _ b _ hxs hb).mono ?_; rintro e w' ⟨rfl, rfl⟩
        rcases hin' with hin | ⟨hin1, hin⟩
        all_goals
          go_wp2_with fail
          go_ret2
          exact ⟨ret_two HR.out.1 HR.out.2, rfl⟩
end Go.Proofs.Ytlckidgeooiboaa
