/- The walk of the law EscCuts. -/
import Derived.Test.YtlckidgeooiboaaEL1
import Derived.Test.YtlckidgeooiboaaEPlain4
namespace Go.Proofs.Ytlckidgeooiboaa
open Go.RowKit Go.Proofs.Lw Go.Proofs.Le
set_option linter.unusedVariables false
theorem is_yes (s : ByteArray) (hs : s.size ≤ 1000) (h : Hid (OkL s.data.toList)) (w : World) : Calls Try.prog 10 #[.string s] w fun e w' => e = .returned (.bool true) ∧ Below w.heap.size w w' :=
  is_any s hs true (Lib.hid ⟨fun _ => h.out, fun _ => rfl⟩) w
theorem is_not (s : ByteArray) (hs : s.size ≤ 1000) (h : Hid (¬ OkL s.data.toList)) (w : World) : Calls Try.prog 10 #[.string s] w fun e w' => e = .returned (.bool false) ∧ Below w.heap.size w w' :=
  is_any s hs false (Lib.hid ⟨fun h' => absurd h' (by decide), fun h' => absurd h' h.out⟩) w
theorem cut_no (s : ByteArray) (k : Nat) (hk : k < s.size) (h : OkL s.data.toList) : ¬ OkL (s.extract 0 k).data.toList := by
  intro h'
  rw [Lib.extract_data, List.drop_zero, Nat.sub_zero] at h'
  have hl : s.data.toList.length = s.size := (Lib.size_eq s).symm
  refine ok_prefix (s.data.toList.take k) (s.data.toList.drop k) ?_ h' (by rw [List.take_append_drop]; exact h)
  intro e
  have := congrArg List.length e
  rw [List.length_drop] at this
  simp at this; omega
theorem more_no (s X : ByteArray) (c : UInt8) (hX : X.data.toList = [c]) (h : OkL s.data.toList) : ¬ OkL (s ++ X).data.toList := by
  intro h'
  have e : (s ++ X).data.toList = s.data.toList ++ [c] := by simp [hX]
  rw [e] at h'
  exact ok_prefix _ _ (by simp) h h'
theorem ok_pos (s : ByteArray) (h : OkL s.data.toList) : 0 < s.size := by
  rw [ok_iff] at h
  rcases Nat.lt_or_ge 0 s.size with h1 | h1
  · exact h1
  · rw [List.getElem?_eq_none (by rw [← Lib.size_eq]; exact h1)] at h; exact absurd h.1 (by simp)
set_option maxRecDepth 100000 in
set_option maxHeartbeats 2000000 in
theorem cuts_walk (s : ByteArray) (n : Nat) (c : UInt8) (hn : n ≤ 65535) (w : World) :
    Calls Try.prog 3 #[.string s, .int .u16 (n : Nat), .int .u8 (c.toNat : Nat)] w fun e w' => e = .returned (.bool true) ∧ Below w.heap.size w w' := by
  by_cases hs : 300 < s.size
  · go_enter Try.func3, Try.ntmps3
    go_wp2_with fail
    refine (awake_any _).mono ?_; rintro e w1 ⟨rfl, hb⟩
    have HB1 := Lib.hid hb
    clear hb
    go_wp2_with fail
    refine (awake_any _).mono ?_; rintro e w2 ⟨rfl, hb⟩
    have HB2 := bx HB1 hb
    clear hb
    go_wp2_with fail
    go_ret
    exact ⟨rfl, HB2.out⟩
  · by_cases hok : OkL s.data.toList
    case neg =>
      have HO := Lib.hid hok
      clear hok
      go_enter Try.func3, Try.ntmps3
      go_wp2_with fail
      refine (awake_any _).mono ?_; rintro e w1 ⟨rfl, hb⟩
      have HB1 := Lib.hid hb
      clear hb
      go_wp2_with fail
      refine (is_not s (by omega) HO _).mono ?_; rintro e w2 ⟨rfl, hb⟩
      have HB2 := bx HB1 hb
      clear hb
      go_wp2_with fail
      refine (awake_any _).mono ?_; rintro e w3 ⟨rfl, hb⟩
      have HB3 := bx HB2 hb
      clear hb
      go_wp2_with fail
      go_ret
      exact ⟨rfl, HB3.out⟩
    case pos =>
      have hpos := ok_pos s hok
      have hz : ¬ (s.size : Int) = 0 := by omega
      have hz2 : ((s.size : Int) == 0) = false := by rw [beq_eq_false_iff_ne]; exact hz
      obtain ⟨K, hK⟩ : ∃ K, n % s.size = K := ⟨_, rfl⟩
      have hKlt : K < s.size := by rw [← hK]; exact Nat.mod_lt _ hpos
      have q1 : (n : Int) % (s.size : Int) = (K : Int) := by rw [← hK]; rfl
      have q2 : (n : Int).tmod (s.size : Int) = (K : Int) := by rw [Int.tmod_eq_emod_of_nonneg (by omega)]; exact q1
      have q3 : (K : Int) ≤ (s.size : Int) := by omega
      have HC := Lib.hid (cut_no s K hKlt hok)
      have HM := Lib.hid (more_no s (strOfNums [(c.toNat : Int)]) c (str1 c) hok)
      have HO := Lib.hid hok
      have hc1 := conv1
      have z1 := size1
      have s1 : ¬ 9223372036854775807 < s.size + 1 := by omega
      clear hok hK
      go_enter Try.func3, Try.ntmps3
      go_wp2_with fail
      refine (awake_any _).mono ?_; rintro e w1 ⟨rfl, hb⟩
      have HB1 := Lib.hid hb
      clear hb
      go_wp2_with fail
      refine (is_yes s (by omega) HO _).mono ?_; rintro e w2 ⟨rfl, hb⟩
      have HB2 := bx HB1 hb
      clear hb
      go_wp2_with fail
      refine (is_not (s.extract 0 K) (by simp; omega) HC _).mono ?_; rintro e w3 ⟨rfl, hb⟩
      have HB3 := bx HB2 hb
      clear hb
      go_wp2_with fail
      refine (is_not (s ++ strOfNums [(c.toNat : Int)]) (by rw [ByteArray.size_append, size1]; omega) HM _).mono ?_; rintro e w4 ⟨rfl, hb⟩
      have HB4 := bx (Lib.hid (HB3.out.alloc HB3.out.size _)) hb
      clear hb
      go_wp2_with fail
      go_ret
      exact ⟨rfl, HB4.out⟩
theorem cuts_int (s : ByteArray) (n c : Int) (h0 : (Lit.int .u16 n).wf = true) (h1 : (Lit.int .u8 c).wf = true) (w : World) :
    Calls Try.prog 3 #[.string s, .int .u16 n, .int .u8 c] w fun e w' => e = .returned (.bool true) ∧ Below w.heap.size w w' := by
  have b0 : 0 ≤ n ∧ n ≤ 65535 := by simpa [Lit.wf, IntKind.min, IntKind.max, IntKind.signed, IntKind.bits] using h0
  have b1 : 0 ≤ c ∧ c ≤ 255 := by simpa [Lit.wf, IntKind.min, IntKind.max, IntKind.signed, IntKind.bits] using h1
  obtain ⟨n, rfl⟩ := Int.eq_ofNat_of_zero_le b0.1
  obtain ⟨c, rfl⟩ := Int.eq_ofNat_of_zero_le b1.1
  have e : ((UInt8.ofNat c).toNat : Int) = (c : Int) := by simp only [UInt8.toNat_ofNat']; omega
  have := cuts_walk s n (UInt8.ofNat c) (by omega) w
  rw [e] at this; exact this
end Go.Proofs.Ytlckidgeooiboaa
