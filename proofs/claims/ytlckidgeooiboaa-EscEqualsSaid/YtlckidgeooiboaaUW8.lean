/- The walks of the reference's Right and Live, and of the law UtfLives. -/
import Derived.Test.YtlckidgeooiboaaUW7
import Derived.Test.YtlckidgeooiboaaUPlain6
import Derived.Deep.LoopGhost
import Derived.Deep.Light
namespace Go.Proofs.Ytlckidgeooiboaa
open Go.RowKit Go.Proofs.Lw

theorem rscalar_at (s : ByteArray) (k : Nat) (c : Int) (n : Nat) (w : World) (h : Hid (uscal (s.data.toList.drop k) = (c, n))) :
    Calls Try.prog 28 #[.string (s.extract k s.size)] w fun e w' => e = .returned (.tuple #[.int .i64 c, .int .i64 n]) ∧ Below w.heap.size w w' := by
  have := rscalar_any (s.extract k s.size) w
  rw [Lib.extract_data, List.take_of_length_le (by simp), h.out] at this
  exact this
theorem run_split (l : List UInt8) (k : Nat) (h : urun 0 (l.take k) = 0) : urun 0 l = urun 0 (l.drop k) := by
  have := urun_append 0 (l.take k) (l.drop k)
  rw [List.take_append_drop, h] at this; exact this
theorem run_take (l : List UInt8) (k n : Nat) (h : urun 0 (l.take k) = 0) : urun 0 (l.take (k + n)) = urun 0 ((l.drop k).take n) := by
  rw [List.take_add, urun_append, h]
theorem bthen5 {w w1 w2 : World} (h : Below w.heap.size w w1) (k : Below w1.heap.size w1 w2) : Below w.heap.size w w2 := h.trans (k.mono h.size)

set_option maxRecDepth 100000 in
theorem rright_any (s : ByteArray) (w : World) (hs : s.size ≤ maxLen) :
    Calls Try.prog 16 #[.string s] w fun e w' => e = .returned (.bool (uright s.data.toList)) ∧ Below w.heap.size w w' := by
  have hsz : Hid (s.size = s.data.toList.length) := Lib.hid (Lib.size_eq s)
  unfold maxLen at hs
  go_enter Try.func16, Try.ntmps16
  go_wp2_with fail
  go_loopg [3] s.size (fun g v wr => ∃ k : Nat, k ≤ s.size ∧ g = s.size - k ∧ v = .int .i64 k ∧ Hid (urun 0 (s.data.toList.take k) = 0) ∧ Hid (Below w.heap.size w wr))
  case atStart => exact ⟨0, Nat.zero_le _, rfl, rfl, Lib.hid rfl, Lib.hid (Below.refl _ _)⟩
  case round =>
    obtain ⟨k, hk, rfl, rfl, hU, hB⟩ := hrel
    by_cases hlt : k < s.size
    · obtain ⟨c, n, hcn⟩ : ∃ c n, uscal (s.data.toList.drop k) = (c, n) := ⟨_, _, rfl⟩
      have HC := Lib.hid hcn
      clear hcn
      have hdl : Hid ((s.data.toList.drop k).length = s.size - k) := Lib.hid (by rw [List.length_drop, ← hsz.out])
      by_cases hn : n = 0
      · subst hn
        have HR : Hid (uright s.data.toList = false) := Lib.hid (by
          have := uscal_none (s.data.toList.drop k) (by rw [HC.out]) (s.size - k) (by omega) (by rw [hdl.out]; exact Nat.le_refl _)
          rw [List.take_of_length_le (by rw [hdl.out]; exact Nat.le_refl _), ← run_split _ _ hU.out] at this
          rw [uright, beq_eq_false_iff_ne]; exact this)
        go_wp2_with fail
        refine (rscalar_at _ _ _ _ _ HC).mono ?_; rintro e w2 ⟨rfl, hb2⟩
        go_wp2_with fail
        go_ret
        exact ⟨by rw [HR.out]; rfl, bthen5 hB.out hb2⟩
      · have hn' : ((n : Int) == 0) = false := by rw [beq_eq_false_iff_ne]; omega
        have hsm := uscal_some (s.data.toList.drop k) (by rw [HC.out]; exact hn)
        rw [HC.out, hdl.out] at hsm
        have hle : k + n ≤ s.size := by have := hsm.1; simp only at this; omega
        have HT : Hid (urun 0 (s.data.toList.take (k + n)) = 0) := Lib.hid (by rw [run_take _ _ _ hU.out]; exact hsm.2.1)
        clear hsm
        go_wp2_with fail
        refine (rscalar_at _ _ _ _ _ HC).mono ?_; rintro e w2 ⟨rfl, hb2⟩
        have HB2 := Lib.hid (bthen5 hB.out hb2)
        clear hb2
        go_wp2_with fail
        go_roundg (s.size - (k + n))
        case measure => go_light; omega
        case rel => go_light; exact ⟨k + n, hle, rfl, by simp, HT, HB2⟩
    · have HR : Hid (uright s.data.toList = true) := Lib.hid (by
        have := hU.out
        rw [List.take_of_length_le (by rw [← hsz.out]; omega)] at this
        rw [uright, this]; rfl)
      go_wp2_with fail
      go_ret
      exact ⟨by rw [HR.out]; rfl, hB.out⟩
end Go.Proofs.Ytlckidgeooiboaa
