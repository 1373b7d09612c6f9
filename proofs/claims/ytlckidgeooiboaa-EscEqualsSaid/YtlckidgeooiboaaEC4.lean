/- The walk of awake. -/
import Derived.Test.YtlckidgeooiboaaEC3
namespace Go.Proofs.Ytlckidgeooiboaa
open Go.RowKit Go.Proofs.Lw Go.Proofs.Le
set_option linter.unusedVariables false

theorem chars_a : charsL [34, 97, 92, 110, 34] = [(97, 2), (10, 4)] := by decide
theorem chars_e : charsL [34, 34] = [] := by decide
theorem text_a (w : World) : Calls Try.prog 11 #[.string ⟨#[34, 97, 92, 110, 34]⟩] w fun e w' => e = .returned (.tuple #[.string ⟨#[97, 10]⟩, .int .i64 0]) ∧ Below w.heap.size w w' := by
  refine text_any ⟨#[34, 97, 92, 110, 34]⟩ (by decide) true (Lib.hid ?_) ⟨#[97, 10]⟩ (Lib.hid ?_) 0 (Lib.hid rfl) w
  · show true = true ↔ ∀ y ∈ charsL [34, 97, 92, 110, 34], y.1 ≠ -1
    rw [chars_a]; simp
  · show _ = if true = true then (⟨(textL (charsL [34, 97, 92, 110, 34])).toArray⟩ : ByteArray) else ⟨#[]⟩
    rw [chars_a, if_pos rfl]; decide
theorem is_e (w : World) : Calls Try.prog 10 #[.string ⟨#[34, 34]⟩] w fun e w' => e = .returned (.bool true) ∧ Below w.heap.size w w' := by
  refine is_any ⟨#[34, 34]⟩ (by decide) true (Lib.hid ?_) w
  show true = true ↔ ∀ y ∈ charsL [34, 34], y.1 ≠ -1
  rw [chars_e]; simp
set_option maxRecDepth 100000 in
theorem awake_any (w : World) : Calls Try.prog 9 #[] w fun e w' => e = .returned (.bool true) ∧ Below w.heap.size w w' := by
  go_enter Try.func9, Try.ntmps9
  go_wp2_with fail
  refine (text_a _).mono ?_; rintro e w1 ⟨rfl, hb1⟩
  have HB1 := Lib.hid hb1
  clear hb1
  go_wp2_with fail
  refine (is_e _).mono ?_; rintro e w2 ⟨rfl, hb2⟩
  have HB2 := Lib.hid (HB1.out.trans (hb2.mono HB1.out.size))
  clear hb2
  go_wp2_with fail
  go_ret
  exact ⟨rfl, HB2.out⟩
end Go.Proofs.Ytlckidgeooiboaa
