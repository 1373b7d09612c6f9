/- The walk of the law EscQuotes. -/
import Derived.Test.YtlckidgeooiboaaEW6
import Derived.Test.YtlckidgeooiboaaUW8
namespace Go.Proofs.Ytlckidgeooiboaa
open Go.RowKit Go.Proofs.Lw Go.Proofs.Le
set_option linter.unusedVariables false
theorem rright_to (s : ByteArray) (R : Bool) (w : World) (hs : s.size ≤ maxLen) (h : Hid (uright s.data.toList = R)) :
    Calls Try.prog 16 #[.string s] w fun e w' => e = .returned (.bool R) ∧ Below w.heap.size w w' := by
  rw [← h.out]; exact rright_any s w hs
theorem bx {w w1 w2 : World} (h : Hid (Below w.heap.size w w1)) (k : Below w1.heap.size w1 w2) : Hid (Below w.heap.size w w2) := Lib.hid (h.out.trans (k.mono h.out.size))
set_option maxRecDepth 100000 in
set_option maxHeartbeats 2000000 in
theorem quotes_walk (t : ByteArray) (w : World) :
    Calls Try.prog 6 #[.string t] w fun e w' => e = .returned (.bool true) ∧ Below w.heap.size w w' := by
  by_cases hs : 300 < t.size
  · go_enter Try.func6, Try.ntmps6
    go_wp2_with fail
    refine (awake_any _).mono ?_; rintro e w1 ⟨rfl, hb⟩
    have HB1 := Lib.hid hb
    clear hb
    go_wp2_with fail
    refine (awake_any _).mono ?_; rintro e w2 ⟨rfl, hb⟩
    have HB2 := bx HB1 hb
    clear hb
    go_wp2_with fail
    go_ret
    exact ⟨rfl, HB2.out⟩
  · cases hu : uright t.data.toList
    · have HU := Lib.hid hu
      clear hu
      go_enter Try.func6, Try.ntmps6
      go_wp2_with fail
      refine (awake_any _).mono ?_; rintro e w1 ⟨rfl, hb⟩
      have HB1 := Lib.hid hb
      clear hb
      go_wp2_with fail
      refine (quote_no t _ (by omega) HU).mono ?_; rintro e w2 ⟨rfl, rfl⟩
      go_wp2_with fail
      refine (single_no t _ (by omega) HU).mono ?_; rintro e w2 ⟨rfl, rfl⟩
      go_wp2_with fail
      refine (rright_to t false _ (by unfold maxLen; omega) HU).mono ?_; rintro e w3 ⟨rfl, hb⟩
      have HB3 := bx HB1 hb
      clear hb
      go_wp2_with fail
      go_ret
      exact ⟨rfl, HB3.out⟩
    · have HU := Lib.hid hu
      clear hu
      obtain ⟨Q, hQ⟩ : ∃ Q : ByteArray, Hid (Q.data.toList = betL 34 t.data.toList) := ⟨⟨(betL 34 t.data.toList).toArray⟩, Lib.hid rfl⟩
      obtain ⟨Z, hZ⟩ : ∃ Q : ByteArray, Hid (Q.data.toList = betL 39 t.data.toList) := ⟨⟨(betL 39 t.data.toList).toArray⟩, Lib.hid rfl⟩
      go_enter Try.func6, Try.ntmps6
      go_wp2_with fail
      refine (awake_any _).mono ?_; rintro e w1 ⟨rfl, hb⟩
      have HB1 := Lib.hid hb
      clear hb
      go_wp2_with fail
      refine (quote_any t Q _ (by omega) HU hQ).mono ?_; rintro e w2 ⟨rfl, hb⟩
      have HB2 := bx HB1 hb
      clear hb HB1
      go_wp2_with fail
      refine (single_any t Z _ (by omega) HU hZ).mono ?_; rintro e w3 ⟨rfl, hb⟩
      have HB3 := bx HB2 hb
      clear hb HB2
      go_wp2_with fail
      refine (rright_to t true _ (by unfold maxLen; omega) HU).mono ?_; rintro e w4 ⟨rfl, hb⟩
      have HB4 := bx HB3 hb
      clear hb HB3
      go_wp2_with fail
      refine (rquote_any t Q _ (by omega) hQ).mono ?_; rintro e w5 ⟨rfl, hb⟩
      have HB5 := bx HB4 hb
      clear hb HB4
      go_wp2_with fail
      refine (rbetween_any t 39 Z _ (by omega) hZ).mono ?_; rintro e w6 ⟨rfl, hb⟩
      have HB6 := bx HB5 hb
      clear hb HB5
      go_wp2_with fail
      go_ret
      exact ⟨rfl, HB6.out⟩
end Go.Proofs.Ytlckidgeooiboaa
