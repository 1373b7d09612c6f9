/- Plain law of the index layer: one byte turned. -/
import Derived.Test.YtdbdmpdfjhmfhaaIPlain5
namespace Go.Proofs.Lx
theorem xor_lt {a b : Nat} (ha : a < 18446744073709551616) (hb : b < 18446744073709551616) : a ^^^ b < 18446744073709551616 := Nat.xor_lt_two_pow (n := 64) ha hb
theorem mul_inj {a b : Nat} (ha : a < 18446744073709551616) (hb : b < 18446744073709551616) (h : (a * 1099511628211) % 18446744073709551616 = (b * 1099511628211) % 18446744073709551616) : a = b := by
  have inv : ∀ x : Nat, x < 18446744073709551616 → (x * 1099511628211 % 18446744073709551616 * 14886173955864302971) % 18446744073709551616 = x := by
    intro x hx
    rw [Nat.mod_mul_mod, Nat.mul_assoc, Nat.mul_mod, show (1099511628211 * 14886173955864302971) % 18446744073709551616 = 1 from by decide, Nat.mul_one, Nat.mod_mod]
    exact Nat.mod_eq_of_lt hx
  rw [← inv a ha, ← inv b hb, h]
theorem xor_canc (a b c : Nat) (h : a ^^^ c = b ^^^ c) : a = b := by
  have := congrArg (· ^^^ c) h
  simpa [Nat.xor_assoc] using this
theorem sstep_inj {h h' b : Nat} (h1 : h < 18446744073709551616) (h2 : h' < 18446744073709551616) (hb : b < 256) (e : sstep h b = sstep h' b) : h = h' :=
  xor_canc _ _ _ (mul_inj (xor_lt h1 (by omega)) (xor_lt h2 (by omega)) e)
theorem sstep_inj2 {h b b' : Nat} (h1 : h < 18446744073709551616) (hb : b < 256) (hb' : b' < 256) (e : sstep h b = sstep h b') : b = b' := by
  have := mul_inj (xor_lt h1 (by omega)) (xor_lt h1 (by omega)) e
  rw [Nat.xor_comm h b, Nat.xor_comm h b'] at this
  exact xor_canc _ _ _ this
theorem sumF_inj (l : List UInt8) {h h' : Nat} (h1 : h < 18446744073709551616) (h2 : h' < 18446744073709551616) (e : sumF h l = sumF h' l) : h = h' := by
  induction l generalizing h h' with
  | nil => exact e
  | cons b l ih => exact sstep_inj h1 h2 b.toNat_lt (ih (sstep_lt _ _) (sstep_lt _ _) e)
theorem sumF_set (l : List UInt8) (i : Nat) (y : UInt8) {h : Nat} (h1 : h < 18446744073709551616) (x : UInt8) (hx : l[i]? = some x) (e : sumF h (l.set i y) = sumF h l) : y = x := by
  induction l generalizing i h with
  | nil => simp at hx
  | cons b l ih =>
    cases i with
    | zero =>
      simp at hx; subst hx
      simp only [List.set_cons_zero, sumF] at e
      exact UInt8.toNat_inj.1 (sstep_inj2 h1 y.toNat_lt b.toNat_lt (sumF_inj l (sstep_lt _ _) (sstep_lt _ _) e))
    | succ i =>
      simp only [List.set_cons_succ, sumF] at e
      exact ih i (sstep_lt _ _) (by simpa using hx) e
theorem wideTo_inj : ∀ (l m : List UInt8), l.length = m.length → wideTo l = wideTo m → l = m
  | [], [], _, _ => rfl
  | [], _ :: _, h, _ => by simp at h
  | _ :: _, [], h, _ => by simp at h
  | a :: l, b :: m, h, e => by
    have ha := a.toNat_lt
    have hb := b.toNat_lt
    simp only [wideTo] at e
    have h1 : a.toNat = b.toNat := by omega
    have h2 : wideTo l = wideTo m := by omega
    rw [UInt8.toNat_inj.1 h1, wideTo_inj l m (by simpa using h) h2]
theorem wideTo_eightTo (n j : Nat) : wideTo (eightTo n j) = n % 256 ^ j := by
  induction j with
  | zero => simp [eightTo, wideTo, Nat.mod_one]
  | succ j ih =>
    simp only [eightTo, wideTo_append, ih, eightTo_len, wideTo]
    have e : (UInt8.ofNat (n / 256 ^ j % 256)).toNat = n / 256 ^ j % 256 := by
      simp only [UInt8.toNat_ofNat']; omega
    rw [e, Nat.pow_succ, Nat.mod_mul, Nat.mul_zero, Nat.add_zero]
theorem wideTo_eight (n : Nat) (h : n < 18446744073709551616) : wideTo (eight n) = n := by
  rw [eight, wideTo_eightTo]; exact Nat.mod_eq_of_lt h
theorem eight_wideTo (l : List UInt8) (h : l.length = 8) : eight (wideTo l) = l := by
  have hl := wideTo_lt l
  rw [h] at hl
  exact wideTo_inj _ _ (by rw [eight_len, h]) (wideTo_eight _ hl)
theorem sumL_lt (l : List UInt8) : sumL l < 18446744073709551616 := sumF_lt _ _ (by decide)
/-- bytes that end in their sum, one byte turned -/
theorem turned (h : List UInt8) (i : Nat) (x y : UInt8) (hx : (h ++ eight (sumL h))[i]? = some x) (hy : y ≠ x) :
    wideTo (((h ++ eight (sumL h)).set i y).drop h.length) ≠ sumL (((h ++ eight (sumL h)).set i y).take h.length) := by
  intro e
  by_cases hi : i < h.length
  · rw [List.set_append_left _ _ hi, List.drop_left' (by simp), List.take_left' (by simp), wideTo_eight _ (sumL_lt h)] at e
    rw [List.getElem?_append_left hi] at hx
    exact hy (sumF_set h i y (by decide) x hx e.symm)
  · rw [List.set_append_right _ _ (by omega), List.drop_left' rfl, List.take_left' rfl] at e
    rw [List.getElem?_append_right (by omega)] at hx
    have e2 : (eight (sumL h)).set (i - h.length) y = eight (sumL h) := wideTo_inj _ _ (by simp) (by rw [e, wideTo_eight _ (sumL_lt h)])
    have hlt : i - h.length < (eight (sumL h)).length := (List.getElem?_eq_some_iff.1 hx).1
    have := congrArg (fun l => l[i - h.length]?) e2
    simp only [List.getElem?_set_self hlt] at this
    rw [hx] at this
    exact hy (by injection this)
end Go.Proofs.Lx
