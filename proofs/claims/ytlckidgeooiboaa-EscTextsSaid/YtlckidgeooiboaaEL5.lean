/- The walks of the laws EscTexts and EscEquals. -/
import Derived.Test.YtlckidgeooiboaaEW9
namespace Go.Proofs.Ytlckidgeooiboaa
open Go.RowKit Go.Proofs.Lw Go.Proofs.Le
set_option linter.unusedVariables false
theorem is_yes' (s : ByteArray) (hs : s.size ≤ 100000) (h : Hid (OkL s.data.toList)) (w : World) : Calls Try.prog 10 #[.string s] w fun e w' => e = .returned (.bool true) ∧ Below w.heap.size w w' :=
  is_any s hs true (Lib.hid ⟨fun _ => h.out, fun _ => rfl⟩) w
theorem equal_no (s t : ByteArray) (w : World) (hs : s.size ≤ 100000) (ht : t.size ≤ 1000) (h : Hid (¬ (OkL s.data.toList ∧ t.data.toList = textP (charsL s.data.toList)))) :
    Calls Try.prog 13 #[.string s, .string t] w fun e w' => e = .returned (.bool false) ∧ Below w.heap.size w w' :=
  equal_any s t hs ht false (Lib.hid ⟨fun h' => absurd h' (by decide), fun h' => absurd ⟨h'.1, by rw [← textL_eq]; exact h'.2.2⟩ h.out⟩) _ (Lib.hid rfl) w
theorem eq_bytes {A B : ByteArray} (h : A.data.toList = B.data.toList) : A = B := by
  apply ByteArray.ext; apply Array.toList_inj.1; exact h
set_option maxRecDepth 100000 in
set_option maxHeartbeats 2000000 in
theorem texts_walk (s : ByteArray) (w : World) :
    Calls Try.prog 4 #[.string s] w fun e w' => e = .returned (.bool true) ∧ Below w.heap.size w w' := by
  by_cases hs : 300 < s.size
  · go_enter Try.func4, Try.ntmps4
    go_wp2_with fail
    refine (awake_any _).mono ?_; rintro e w1 ⟨rfl, hb⟩
    have HB1 := Lib.hid hb
    clear hb
    go_wp2_with fail
    refine (awake_any _).mono ?_; rintro e w2 ⟨rfl, hb⟩
    have HB2 := bx HB1 hb
    clear hb HB1
    go_wp2_with fail
    go_ret
    exact ⟨rfl, HB2.out⟩
  by_cases hok : OkL s.data.toList
  · have HO := Lib.hid hok
    obtain ⟨T, Q, hT, zT, HU, _⟩ := text_ex s (by omega) HO
    clear hok
    go_enter Try.func4, Try.ntmps4
    go_wp2_with fail
    refine (awake_any _).mono ?_; rintro e w1 ⟨rfl, hb⟩
    have HB1 := Lib.hid hb
    clear hb
    go_wp2_with fail
    refine (text_yes s T _ (by omega) HO hT).mono ?_; rintro e w2 ⟨rfl, hb⟩
    have HB2 := bx HB1 hb
    clear hb HB1
    go_wp2_with fail
    refine (rtext_yes s T _ (by omega) HO hT).mono ?_; rintro e w3 ⟨rfl, hb⟩
    have HB3 := bx HB2 hb
    clear hb HB2
    go_wp2_with fail
    refine (is_yes' s (by omega) HO _).mono ?_; rintro e w4 ⟨rfl, hb⟩
    have HB4 := bx HB3 hb
    clear hb HB3
    go_wp2_with fail
    refine (equal_yes s T _ (by omega) zT HO hT HU).mono ?_; rintro e w5 ⟨rfl, hb⟩
    have HB5 := bx HB4 hb
    clear hb HB4
    go_wp2_with fail
    go_ret
    exact ⟨rfl, HB5.out⟩
  · have HO := Lib.hid hok
    have HN : Hid (¬ (OkL s.data.toList ∧ (⟨#[]⟩ : ByteArray).data.toList = textP (charsL s.data.toList))) := Lib.hid fun h => hok h.1
    have z0 : (⟨#[]⟩ : ByteArray).size ≤ 1000 := by decide
    clear hok
    go_enter Try.func4, Try.ntmps4
    go_wp2_with fail
    refine (awake_any _).mono ?_; rintro e w1 ⟨rfl, hb⟩
    have HB1 := Lib.hid hb
    clear hb
    go_wp2_with fail
    refine (text_no s _ (by omega) HO).mono ?_; rintro e w2 ⟨rfl, hb⟩
    have HB2 := bx HB1 hb
    clear hb HB1
    go_wp2_with fail
    refine (rtext_no s _ (by omega) HO).mono ?_; rintro e w3 ⟨rfl, hb⟩
    have HB3 := bx HB2 hb
    clear hb HB2
    go_wp2_with fail
    refine (is_not' s (by omega) HO _).mono ?_; rintro e w4 ⟨rfl, hb⟩
    have HB4 := bx HB3 hb
    clear hb HB3
    go_wp2_with fail
    refine (equal_no s ⟨#[]⟩ _ (by omega) z0 HN).mono ?_; rintro e w5 ⟨rfl, hb⟩
    have HB5 := bx HB4 hb
    clear hb HB4
    go_wp2_with fail
    go_ret
    exact ⟨rfl, HB5.out⟩
set_option maxRecDepth 100000 in
set_option maxHeartbeats 2000000 in
theorem equals_walk (s t : ByteArray) (w : World) :
    Calls Try.prog 5 #[.string s, .string t] w fun e w' => e = .returned (.bool true) ∧ Below w.heap.size w w' := by
  by_cases hs : 300 < s.size
  · go_enter Try.func5, Try.ntmps5
    go_wp2_with fail
    refine (awake_any _).mono ?_; rintro e w1 ⟨rfl, hb⟩
    have HB1 := Lib.hid hb
    clear hb
    go_wp2_with fail
    refine (awake_any _).mono ?_; rintro e w2 ⟨rfl, hb⟩
    have HB2 := bx HB1 hb
    clear hb HB1
    go_wp2_with fail
    go_ret
    exact ⟨rfl, HB2.out⟩
  by_cases ht : 300 < t.size
  · go_enter Try.func5, Try.ntmps5
    go_wp2_with fail
    refine (awake_any _).mono ?_; rintro e w1 ⟨rfl, hb⟩
    have HB1 := Lib.hid hb
    clear hb
    go_wp2_with fail
    refine (awake_any _).mono ?_; rintro e w2 ⟨rfl, hb⟩
    have HB2 := bx HB1 hb
    clear hb HB1
    go_wp2_with fail
    go_ret
    exact ⟨rfl, HB2.out⟩
  by_cases hok : OkL s.data.toList
  · have HO := Lib.hid hok
    obtain ⟨T, Q, hT, zT, HU, _⟩ := text_ex s (by omega) HO
    clear hok
    by_cases heq : T = t
    · subst heq
      go_enter Try.func5, Try.ntmps5
      go_wp2_with fail
      refine (awake_any _).mono ?_; rintro e w1 ⟨rfl, hb⟩
      have HB1 := Lib.hid hb
      clear hb
      go_wp2_with fail
      refine (rtext_yes s T _ (by omega) HO hT).mono ?_; rintro e w2 ⟨rfl, hb⟩
      have HB2 := bx HB1 hb
      clear hb HB1
      go_wp2_with fail
      refine (equal_yes s T _ (by omega) zT HO hT HU).mono ?_; rintro e w3 ⟨rfl, hb⟩
      have HB3 := bx HB2 hb
      clear hb HB2
      go_wp2_with fail
      go_ret
      exact ⟨rfl, HB3.out⟩
    · have HN : Hid (¬ (OkL s.data.toList ∧ t.data.toList = textP (charsL s.data.toList))) := Lib.hid fun h => heq (eq_bytes (by rw [hT.out, h.2]))
      have heq2 : (T.toList == t.toList) = false := by rw [beq_eq_false_iff_ne, Lib.toList_data, Lib.toList_data]; exact fun h => heq (eq_bytes h)
      go_enter Try.func5, Try.ntmps5
      go_wp2_with fail
      refine (awake_any _).mono ?_; rintro e w1 ⟨rfl, hb⟩
      have HB1 := Lib.hid hb
      clear hb
      go_wp2_with fail
      refine (rtext_yes s T _ (by omega) HO hT).mono ?_; rintro e w2 ⟨rfl, hb⟩
      have HB2 := bx HB1 hb
      clear hb HB1
      go_wp2_with fail
      refine (equal_no s t _ (by omega) (by omega) HN).mono ?_; rintro e w3 ⟨rfl, hb⟩
      have HB3 := bx HB2 hb
      clear hb HB2
      go_wp2_with fail
      go_ret
      exact ⟨rfl, HB3.out⟩
  · have HO := Lib.hid hok
    have HN : Hid (¬ (OkL s.data.toList ∧ t.data.toList = textP (charsL s.data.toList))) := Lib.hid fun h => hok h.1
    clear hok
    go_enter Try.func5, Try.ntmps5
    go_wp2_with fail
    refine (awake_any _).mono ?_; rintro e w1 ⟨rfl, hb⟩
    have HB1 := Lib.hid hb
    clear hb
    go_wp2_with fail
    refine (rtext_no s _ (by omega) HO).mono ?_; rintro e w2 ⟨rfl, hb⟩
    have HB2 := bx HB1 hb
    clear hb HB1
    go_wp2_with fail
    refine (equal_no s t _ (by omega) (by omega) HN).mono ?_; rintro e w3 ⟨rfl, hb⟩
    have HB3 := bx HB2 hb
    clear hb HB2
    go_wp2_with fail
    go_ret
    exact ⟨rfl, HB3.out⟩
end Go.Proofs.Ytlckidgeooiboaa
