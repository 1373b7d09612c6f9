/- The walk of the law EscBack. -/
import Derived.Test.YtlckidgeooiboaaEL1
import Derived.Test.YtlckidgeooiboaaEC5
import Derived.Test.YtlckidgeooiboaaEPlain6
namespace Go.Proofs.Ytlckidgeooiboaa
open Go.RowKit Go.Proofs.Lw Go.Proofs.Le
set_option linter.unusedVariables false
theorem textL_eq (L : List (Int × Int)) : textL L = textP L := by
  induction L with
  | nil => rfl
  | cons x L ih => rw [textL, textP, ih]; rfl
theorem is_not' (s : ByteArray) (hs : s.size ≤ 100000) (h : Hid (¬ OkL s.data.toList)) (w : World) : Calls Try.prog 10 #[.string s] w fun e w' => e = .returned (.bool false) ∧ Below w.heap.size w w' :=
  is_any s hs false (Lib.hid ⟨fun h' => absurd h' (by decide), fun h' => absurd h' h.out⟩) w
theorem text_yes (s T : ByteArray) (w : World) (hs : s.size ≤ 100000) (h : Hid (OkL s.data.toList)) (hT : Hid (T.data.toList = textP (charsL s.data.toList))) :
    Calls Try.prog 11 #[.string s] w fun e w' => e = .returned (.tuple #[.string T, .int .i64 0]) ∧ Below w.heap.size w w' :=
  text_any s hs true (Lib.hid ⟨fun _ => h.out, fun _ => rfl⟩) T (Lib.hid (by rw [if_pos rfl, textL_eq]; exact of_list hT.out)) 0 (Lib.hid rfl) w
theorem text_no (s : ByteArray) (w : World) (hs : s.size ≤ 100000) (h : Hid (¬ OkL s.data.toList)) :
    Calls Try.prog 11 #[.string s] w fun e w' => e = .returned (.tuple #[.string ⟨#[]⟩, .int .i64 3]) ∧ Below w.heap.size w w' :=
  text_any s hs false (Lib.hid ⟨fun h' => absurd h' (by decide), fun h' => absurd h' h.out⟩) ⟨#[]⟩ (Lib.hid (by rw [if_neg (by decide)])) 3 (Lib.hid rfl) w
theorem equal_yes (s t : ByteArray) (w : World) (hs : s.size ≤ 100000) (ht : t.size ≤ 1000) (h : Hid (OkL s.data.toList)) (hT : Hid (t.data.toList = textP (charsL s.data.toList))) (hu : Hid (uright t.data.toList = true)) :
    Calls Try.prog 13 #[.string s, .string t] w fun e w' => e = .returned (.bool true) ∧ Below w.heap.size w w' :=
  equal_any s t hs ht true (Lib.hid ⟨fun _ => ⟨h.out, hu.out, by rw [textL_eq]; exact hT.out⟩, fun _ => rfl⟩) true hu w
theorem escB_pos (m c : UInt8) : 1 ≤ (escB m c).length := by
  unfold escB ctlB
  (repeat' split) <;> simp
theorem le_esc (m : UInt8) (l : List UInt8) : l.length ≤ (escL m l).length := by
  induction l with
  | nil => simp
  | cons c l ih => have := escB_pos m c; simp only [escL, List.length_append, List.length_cons]; omega
theorem quote_ex (s : ByteArray) (hs : s.size ≤ 1000) (hu : Hid (uright s.data.toList = true)) : ∃ Q : ByteArray, Hid (Q.data.toList = betL 34 s.data.toList) ∧ Q.size ≤ 100000 ∧ Hid (OkL Q.data.toList) ∧ Hid (s.data.toList = textP (charsL Q.data.toList)) := by
  have h := quote_ok s.data.toList hu.out
  refine ⟨⟨(betL 34 s.data.toList).toArray⟩, Lib.hid rfl, ?_, Lib.hid h.1, Lib.hid h.2.symm⟩
  have h1 : (⟨(betL 34 s.data.toList).toArray⟩ : ByteArray).size = (betL 34 s.data.toList).length := by rw [Lib.size_eq]
  have h2 := escL_len 34 s.data.toList
  rw [← Lib.size_eq] at h2
  rw [h1]; simp only [betL, List.length_append, List.length_cons, List.length_nil]; omega
theorem text_ex (s : ByteArray) (hs : s.size ≤ 300) (h : Hid (OkL s.data.toList)) : ∃ T Q : ByteArray, Hid (T.data.toList = textP (charsL s.data.toList)) ∧ T.size ≤ 1000 ∧ Hid (uright T.data.toList = true) ∧ Hid (Q.data.toList = betL 34 T.data.toList) ∧ Q.size ≤ 100000 ∧ Hid (OkL Q.data.toList) ∧ Hid (T.data.toList = textP (charsL Q.data.toList)) ∧ Q.size ≤ s.size := by
  obtain ⟨h1, h2⟩ := text_ok s.data.toList h.out
  obtain ⟨T, hT⟩ : ∃ T : ByteArray, T.data.toList = textP (charsL s.data.toList) := ⟨⟨(textP (charsL s.data.toList)).toArray⟩, rfl⟩
  rw [← hT] at h1 h2
  rw [← Lib.size_eq] at h2
  have h3 := le_esc 34 T.data.toList
  rw [← Lib.size_eq] at h3
  simp only [betL, List.length_append, List.length_cons, List.length_nil] at h2
  have zT : T.size ≤ 1000 := by omega
  obtain ⟨Q, q1, q2, q3, q4⟩ := quote_ex T zT (Lib.hid h1)
  refine ⟨T, Q, Lib.hid hT, zT, Lib.hid h1, q1, q2, q3, q4, ?_⟩
  have := congrArg List.length q1.out
  rw [← Lib.size_eq] at this
  simp only [betL, List.length_append, List.length_cons, List.length_nil] at this
  omega
set_option maxRecDepth 100000 in
set_option maxHeartbeats 2000000 in
theorem back_yy (s : ByteArray) (w : World) (hs : ¬ 300 < s.size) (HU : Hid (uright s.data.toList = true)) (HO : Hid (OkL s.data.toList)) :
    Calls Try.prog 8 #[.string s] w fun e w' => e = .returned (.bool true) ∧ Below w.heap.size w w' := by
  obtain ⟨Q, hQ, zQ, hQok, hQt⟩ := quote_ex s (by omega) HU
  obtain ⟨T, Q2, hT, zT, HUT, hQ2, zQ2, hQ2ok, hQ2t, hle⟩ := text_ex s (by omega) HO
  have hle' : (Q2.size : Int) ≤ (s.size : Int) := by omega
  go_enter Try.func8, Try.ntmps8
  go_wp2_with fail
  refine (awake_any _).mono ?_; rintro e w1 ⟨rfl, hb⟩
  have HB1 := Lib.hid hb
  clear hb
  go_wp2_with fail
  refine (quote_any s Q _ (by omega) HU hQ).mono ?_; rintro e w2 ⟨rfl, hb⟩
  have HB2 := bx HB1 hb
  clear hb HB1
  go_wp2_with fail
  refine (text_yes Q s _ zQ hQok hQt).mono ?_; rintro e w3 ⟨rfl, hb⟩
  have HB3 := bx HB2 hb
  clear hb HB2
  go_wp2_with fail
  refine (equal_yes Q s _ zQ (by omega) hQok hQt HU).mono ?_; rintro e w4 ⟨rfl, hb⟩
  have HB1 := bx HB3 hb
  clear hb HB3
  go_wp2_with fail
  refine (text_yes s T _ (by omega) HO hT).mono ?_; rintro e w5 ⟨rfl, hb⟩
  have HB5 := bx HB1 hb
  clear hb HB1
  go_wp2_with fail
  refine (quote_any T Q2 _ zT HUT hQ2).mono ?_; rintro e w6 ⟨rfl, hb⟩
  have HB6 := bx HB5 hb
  clear hb HB5
  go_wp2_with fail
  refine (text_yes Q2 T _ zQ2 hQ2ok hQ2t).mono ?_; rintro e w7 ⟨rfl, hb⟩
  have HB7 := bx HB6 hb
  clear hb HB6
  go_wp2_with fail
  go_ret
  exact ⟨rfl, HB7.out⟩
set_option maxRecDepth 100000 in
set_option maxHeartbeats 2000000 in
theorem back_yn (s : ByteArray) (w : World) (hs : ¬ 300 < s.size) (HU : Hid (uright s.data.toList = true)) (HO : Hid (¬ OkL s.data.toList)) :
    Calls Try.prog 8 #[.string s] w fun e w' => e = .returned (.bool true) ∧ Below w.heap.size w w' := by
  obtain ⟨Q, hQ, zQ, hQok, hQt⟩ := quote_ex s (by omega) HU
  go_enter Try.func8, Try.ntmps8
  go_wp2_with fail
  refine (awake_any _).mono ?_; rintro e w1 ⟨rfl, hb⟩
  have HB1 := Lib.hid hb
  clear hb
  go_wp2_with fail
  refine (quote_any s Q _ (by omega) HU hQ).mono ?_; rintro e w2 ⟨rfl, hb⟩
  have HB2 := bx HB1 hb
  clear hb HB1
  go_wp2_with fail
  refine (text_yes Q s _ zQ hQok hQt).mono ?_; rintro e w3 ⟨rfl, hb⟩
  have HB3 := bx HB2 hb
  clear hb HB2
  go_wp2_with fail
  refine (equal_yes Q s _ zQ (by omega) hQok hQt HU).mono ?_; rintro e w4 ⟨rfl, hb⟩
  have HB1 := bx HB3 hb
  clear hb HB3
  go_wp2_with fail
  refine (text_no s _ (by omega) HO).mono ?_; rintro e w5 ⟨rfl, hb⟩
  have HB5 := bx HB1 hb
  clear hb HB1
  go_wp2_with fail
  refine (is_not' s (by omega) HO _).mono ?_; rintro e w6 ⟨rfl, hb⟩
  have HB6 := bx HB5 hb
  clear hb HB5
  go_wp2_with fail
  go_ret
  exact ⟨rfl, HB6.out⟩
set_option maxRecDepth 100000 in
set_option maxHeartbeats 2000000 in
theorem back_ny (s : ByteArray) (w : World) (hs : ¬ 300 < s.size) (HU : Hid (uright s.data.toList = false)) (HO : Hid (OkL s.data.toList)) :
    Calls Try.prog 8 #[.string s] w fun e w' => e = .returned (.bool true) ∧ Below w.heap.size w w' := by
  obtain ⟨T, Q2, hT, zT, HUT, hQ2, zQ2, hQ2ok, hQ2t, hle⟩ := text_ex s (by omega) HO
  have hle' : (Q2.size : Int) ≤ (s.size : Int) := by omega
  go_enter Try.func8, Try.ntmps8
  go_wp2_with fail
  refine (awake_any _).mono ?_; rintro e w1 ⟨rfl, hb⟩
  have HB1 := Lib.hid hb
  clear hb
  go_wp2_with fail
  refine (quote_no s _ (by omega) HU).mono ?_; rintro e w2 ⟨rfl, rfl⟩
  go_wp2_with fail
  refine (text_yes s T _ (by omega) HO hT).mono ?_; rintro e w5 ⟨rfl, hb⟩
  have HB5 := bx HB1 hb
  clear hb HB1
  go_wp2_with fail
  refine (quote_any T Q2 _ zT HUT hQ2).mono ?_; rintro e w6 ⟨rfl, hb⟩
  have HB6 := bx HB5 hb
  clear hb HB5
  go_wp2_with fail
  refine (text_yes Q2 T _ zQ2 hQ2ok hQ2t).mono ?_; rintro e w7 ⟨rfl, hb⟩
  have HB7 := bx HB6 hb
  clear hb HB6
  go_wp2_with fail
  go_ret
  exact ⟨rfl, HB7.out⟩
set_option maxRecDepth 100000 in
set_option maxHeartbeats 2000000 in
theorem back_nn (s : ByteArray) (w : World) (hs : ¬ 300 < s.size) (HU : Hid (uright s.data.toList = false)) (HO : Hid (¬ OkL s.data.toList)) :
    Calls Try.prog 8 #[.string s] w fun e w' => e = .returned (.bool true) ∧ Below w.heap.size w w' := by
  go_enter Try.func8, Try.ntmps8
  go_wp2_with fail
  refine (awake_any _).mono ?_; rintro e w1 ⟨rfl, hb⟩
  have HB1 := Lib.hid hb
  clear hb
  go_wp2_with fail
  refine (quote_no s _ (by omega) HU).mono ?_; rintro e w2 ⟨rfl, rfl⟩
  go_wp2_with fail
  refine (text_no s _ (by omega) HO).mono ?_; rintro e w5 ⟨rfl, hb⟩
  have HB5 := bx HB1 hb
  clear hb HB1
  go_wp2_with fail
  refine (is_not' s (by omega) HO _).mono ?_; rintro e w6 ⟨rfl, hb⟩
  have HB6 := bx HB5 hb
  clear hb HB5
  go_wp2_with fail
  go_ret
  exact ⟨rfl, HB6.out⟩
set_option maxRecDepth 100000 in
theorem back_long (s : ByteArray) (w : World) (hs : 300 < s.size) :
    Calls Try.prog 8 #[.string s] w fun e w' => e = .returned (.bool true) ∧ Below w.heap.size w w' := by
  go_enter Try.func8, Try.ntmps8
  go_wp2_with fail
  refine (awake_any _).mono ?_; rintro e w1 ⟨rfl, hb⟩
  have HB1 := Lib.hid hb
  clear hb
  go_wp2_with fail
  refine (awake_any _).mono ?_; rintro e w2 ⟨rfl, hb⟩
  have HB2 := bx HB1 hb
  clear hb
  go_wp2_with fail
  go_ret
  exact ⟨rfl, HB2.out⟩
theorem back_walk (s : ByteArray) (w : World) : Calls Try.prog 8 #[.string s] w fun e w' => e = .returned (.bool true) ∧ Below w.heap.size w w' := by
  by_cases hs : 300 < s.size
  · exact back_long s w hs
  · cases hu : uright s.data.toList
    · by_cases ho : OkL s.data.toList
      · exact back_ny s w hs (Lib.hid hu) (Lib.hid ho)
      · exact back_nn s w hs (Lib.hid hu) (Lib.hid ho)
    · by_cases ho : OkL s.data.toList
      · exact back_yy s w hs (Lib.hid hu) (Lib.hid ho)
      · exact back_yn s w hs (Lib.hid hu) (Lib.hid ho)
end Go.Proofs.Ytlckidgeooiboaa
