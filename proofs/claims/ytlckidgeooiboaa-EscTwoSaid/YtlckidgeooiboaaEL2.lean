/- The walk of the law EscTwo. -/
import Derived.Test.YtlckidgeooiboaaEL1
import Derived.Deep.QuietTactic
import Derived.BigQuiet
namespace Go.Proofs.Ytlckidgeooiboaa
open Go.RowKit Go.Proofs.Lw Go.Proofs.Le
set_option linter.unusedVariables false
theorem wrap_nat (n : Nat) (h : n ≤ 1000000) : IntKind.i64.wrap (n : Int) = (n : Int) := by rw [IntKind.wrap_i64]; omega
theorem below_drewN {B : Nat} {w w' : World} (h : Below B w w') (n : Nat) : Below B w (w'.drewN n) := ⟨h.os, h.tape, h.output, h.size, h.block⟩
theorem uright_two {l k : List UInt8} (hl : uright l = true) (hk : uright k = true) : uright (l ++ k) = true := by
  unfold uright at *
  rw [beq_iff_eq] at *
  rw [urun_append, hl, hk]
theorem betL_len (m : UInt8) (l : List UInt8) : (betL m l).length = (escL m l).length + 2 := by simp [betL]
theorem bet_two {m : UInt8} {s t A B C : ByteArray} (hA : Hid (A.data.toList = betL m s.data.toList)) (hB : Hid (B.data.toList = betL m t.data.toList)) (hC : Hid (C.data.toList = betL m (s ++ t).data.toList)) (n : Nat) (hn : A.size = n + 1) :
    Hid (C = A.extract 0 n ++ B.extract 1 B.size) := Lib.hid (by
  apply ByteArray.ext; apply Array.toList_inj.1
  have hl : ((m :: escL m s.data.toList)).length = n := by
    have := congrArg List.length hA.out
    rw [← Lib.size_eq, betL_len] at this
    simp only [List.length_cons]; omega
  have h1 : (A.extract 0 n).data.toList = m :: escL m s.data.toList := by
    rw [Lib.extract_data, hA.out, List.drop_zero, Nat.sub_zero, betL]
    rw [show [m] ++ escL m s.data.toList ++ [m] = (m :: escL m s.data.toList) ++ [m] by simp, List.take_left' hl]
  have h2 : (B.extract 1 B.size).data.toList = escL m t.data.toList ++ [m] := by
    rw [Lib.extract_data, hB.out, betL, List.take_of_length_le (by rw [Lib.size_eq, hB.out]; simp [betL])]
    simp
  have h3 : (A.extract 0 n ++ B.extract 1 B.size).data.toList = (A.extract 0 n).data.toList ++ (B.extract 1 B.size).data.toList := by simp
  rw [h3, h1, h2, hC.out, betL, show (s ++ t).data.toList = s.data.toList ++ t.data.toList by simp, escL_append]
  simp)
theorem two_size {m : UInt8} {s A : ByteArray} (hA : Hid (A.data.toList = betL m s.data.toList)) (hs : s.size ≤ 150) : ∃ n, A.size = n + 1 ∧ 1 ≤ n ∧ n ≤ 1000 := by
  have := congrArg List.length hA.out
  rw [← Lib.size_eq, betL_len] at this
  have h2 := escL_len m s.data.toList
  rw [← Lib.size_eq] at h2
  exact ⟨(escL m s.data.toList).length + 1, this, by omega, by omega⟩
theorem ex_quote (s : ByteArray) (m : UInt8) : ∃ A : ByteArray, Hid (A.data.toList = betL m s.data.toList) := ⟨⟨(betL m s.data.toList).toArray⟩, Lib.hid rfl⟩
set_option maxRecDepth 100000 in
set_option maxHeartbeats 2000000 in
theorem two_long (s t : ByteArray) (w : World) (h : 150 < s.size ∨ ¬ 150 < s.size ∧ 150 < t.size) :
    Calls Try.prog 7 #[.string s, .string t] w fun e w' => e = .returned (.bool true) ∧ Below w.heap.size w w' := by
  go_enter Try.func7, Try.ntmps7
  rcases h with h | ⟨h, h1⟩
  all_goals
    go_wp2_with fail
    refine (awake_any _).mono ?_; rintro e w1 ⟨rfl, hb⟩
    have HB1 := Lib.hid hb
    clear hb
    go_wp2_with fail
    refine (awake_any _).mono ?_; rintro e w2 ⟨rfl, hb⟩
    have HB2 := bx HB1 hb
    clear hb
    go_wp2_with fail
    go_ret
    exact ⟨rfl, HB2.out⟩
set_option maxRecDepth 100000 in
set_option maxHeartbeats 2000000 in
theorem two_no (s t : ByteArray) (w : World) (hs : ¬ 150 < s.size) (ht : ¬ 150 < t.size) (a b : Bool) (ha : Hid (uright s.data.toList = a)) (hb : Hid (uright t.data.toList = b)) (hab : a = false ∨ (a = true ∧ b = false)) :
    Calls Try.prog 7 #[.string s, .string t] w fun e w' => e = .returned (.bool true) ∧ Below w.heap.size w w' := by
  obtain ⟨A, hA⟩ := ex_quote s 34
  obtain ⟨B, hB⟩ := ex_quote t 34
  go_enter Try.func7, Try.ntmps7
  go_wp2_with fail
  refine (awake_any _).mono ?_; rintro e w1 ⟨rfl, hb⟩
  have HB1 := Lib.hid hb
  clear hb
  go_wp2_with fail
  rcases hab with rfl | ⟨rfl, rfl⟩
  · refine (quote_no s _ (by omega) ha).mono ?_; rintro e w2 ⟨rfl, rfl⟩
    go_wp2_with fail
    cases b
    · refine (quote_no t _ (by omega) hb).mono ?_; rintro e w2 ⟨rfl, rfl⟩
      go_wp2_with fail
      go_ret
      exact ⟨rfl, HB1.out⟩
    · refine (quote_any t B _ (by omega) hb hB).mono ?_; rintro e w2 ⟨rfl, hb2⟩
      have HB2 := bx HB1 hb2
      clear hb2
      go_wp2_with fail
      go_ret
      exact ⟨rfl, HB2.out⟩
  · refine (quote_any s A _ (by omega) ha hA).mono ?_; rintro e w2 ⟨rfl, hb2⟩
    have HB2 := bx HB1 hb2
    clear hb2
    go_wp2_with fail
    refine (quote_no t _ (by omega) hb).mono ?_; rintro e w3 ⟨rfl, rfl⟩
    go_wp2_with fail
    go_ret
    exact ⟨rfl, HB2.out⟩
set_option maxRecDepth 100000 in
set_option maxHeartbeats 2000000 in
theorem two_yes (s t : ByteArray) (w : World) (hs : ¬ 150 < s.size) (ht : ¬ 150 < t.size) (ha : Hid (uright s.data.toList = true)) (hb : Hid (uright t.data.toList = true)) :
    Calls Try.prog 7 #[.string s, .string t] w fun e w' => e = .returned (.bool true) ∧ Below w.heap.size w w' := by
  obtain ⟨A, hA⟩ := ex_quote s 34
  obtain ⟨B, hB⟩ := ex_quote t 34
  obtain ⟨C, hC⟩ := ex_quote (s ++ t) 34
  obtain ⟨X, hX⟩ := ex_quote s 39
  obtain ⟨Y, hY⟩ := ex_quote t 39
  obtain ⟨Z, hZ⟩ := ex_quote (s ++ t) 39
  obtain ⟨na, ha1, ha2, ha3⟩ := two_size hA (by omega)
  obtain ⟨nb, hb1, hb2, hb3⟩ := two_size hB (by omega)
  obtain ⟨nx, hx1, hx2, hx3⟩ := two_size hX (by omega)
  obtain ⟨ny, hy1, hy2, hy3⟩ := two_size hY (by omega)
  have HC := bet_two hA hB hC na ha1
  have HZ := bet_two hX hY hZ nx hx1
  have hst : Hid (uright (s ++ t).data.toList = true) := Lib.hid (by rw [show (s ++ t).data.toList = s.data.toList ++ t.data.toList by simp]; exact uright_two ha.out hb.out)
  have zst : (s ++ t).size ≤ 1000 := by rw [ByteArray.size_append]; omega
  have s0 : ¬ 9223372036854775807 < s.size + t.size := by omega
  go_enter Try.func7, Try.ntmps7
  go_wp2_with fail
  refine (awake_any _).mono ?_; rintro e w1 ⟨rfl, hq⟩
  have HB1 := Lib.hid hq
  clear hq
  go_wp2_with fail
  refine (quote_any s A _ (by omega) ha hA).mono ?_; rintro e w2 ⟨rfl, hq⟩
  have HB2 := bx HB1 hq
  clear hq HB1
  go_wp2_with fail
  refine (quote_any t B _ (by omega) hb hB).mono ?_; rintro e w3 ⟨rfl, hq⟩
  have HB3 := bx HB2 hq
  clear hq HB2
  go_wp2_with fail
  refine (quote_any (s ++ t) C _ zst hst hC).mono ?_; rintro e w4 ⟨rfl, hq⟩
  have HB4 := bx HB3 hq
  clear hq HB3
  go_wp2_with fail
  refine (single_any s X _ (by omega) ha hX).mono ?_; rintro e w5 ⟨rfl, hq⟩
  have HB5 := bx HB4 hq
  clear hq HB4
  go_wp2_with fail
  refine (single_any t Y _ (by omega) hb hY).mono ?_; rintro e w6 ⟨rfl, hq⟩
  have HB6 := bx HB5 hq
  clear hq HB5
  go_wp2_with fail
  refine (single_any (s ++ t) Z _ zst hst hZ).mono ?_; rintro e w7 ⟨rfl, hq⟩
  have HB7 := bx HB6 hq
  clear hq HB6
  have a1 : (A.size : Int) - 1 = (na : Int) := by omega
  have a2 : (na : Int) ≤ (A.size : Int) := by omega
  have b1 : (1 : Int) ≤ (B.size : Int) := by omega
  have x1 : (X.size : Int) - 1 = (nx : Int) := by omega
  have x2 : (nx : Int) ≤ (X.size : Int) := by omega
  have y1 : (1 : Int) ≤ (Y.size : Int) := by omega
  have a3 := wrap_nat na (by omega)
  have x3 := wrap_nat nx (by omega)
  have za : (A.extract 0 na).size = na := by simp; omega
  have zb : (B.extract 1 B.size).size = nb := by simp; omega
  have zx : (X.extract 0 nx).size = nx := by simp; omega
  have zy : (Y.extract 1 Y.size).size = ny := by simp; omega
  have s1 : ¬ 9223372036854775807 < na + nb := by omega
  have s2 : ¬ 9223372036854775807 < nx + ny := by omega
  have hcC : (C.toList == (A.extract 0 na ++ B.extract 1 B.size).toList) = true := by rw [← HC.out]; simp
  have hcZ : (Z.toList == (X.extract 0 nx ++ Y.extract 1 Y.size).toList) = true := by rw [← HZ.out]; simp
  clear ha1 hb1 hx1 hy1
  go_wp2_with fail
  go_quiet (fail)
  go_wp2_with fail
  go_ret
  exact ⟨rfl, below_drewN HB7.out _⟩
theorem two_walk (s t : ByteArray) (w : World) : Calls Try.prog 7 #[.string s, .string t] w fun e w' => e = .returned (.bool true) ∧ Below w.heap.size w w' := by
  by_cases hs : 150 < s.size
  · exact two_long s t w (.inl hs)
  · by_cases ht : 150 < t.size
    · exact two_long s t w (.inr ⟨hs, ht⟩)
    · cases ha : uright s.data.toList
      · exact two_no s t w hs ht false _ (Lib.hid ha) (Lib.hid rfl) (.inl rfl)
      · cases hb : uright t.data.toList
        · exact two_no s t w hs ht true false (Lib.hid ha) (Lib.hid hb) (.inr ⟨rfl, rfl⟩)
        · exact two_yes s t w hs ht (Lib.hid ha) (Lib.hid hb)
end Go.Proofs.Ytlckidgeooiboaa
