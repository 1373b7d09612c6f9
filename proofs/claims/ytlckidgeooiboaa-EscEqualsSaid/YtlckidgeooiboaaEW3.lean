/- The walk of char. -/
import Derived.Test.YtlckidgeooiboaaEW2
namespace Go.Proofs.Ytlckidgeooiboaa
open Go.RowKit Go.Proofs.Lw Go.Proofs.Le
set_option linter.unusedVariables false

theorem list_cons (s : ByteArray) (h : 0 < s.size) : s.data.toList = s[0] :: s.data.toList.drop 1 := by
  have hl : 0 < s.data.toList.length := by rw [← Lib.size_eq]; exact h
  have := List.drop_eq_getElem_cons hl
  rw [List.drop_zero] at this
  rw [this]; rfl
theorem list_cons2 (s : ByteArray) (h : 1 < s.size) : s.data.toList = s[0] :: s[1] :: s.data.toList.drop 2 := by
  have hl : 1 < s.data.toList.length := by rw [← Lib.size_eq]; exact h
  rw [list_cons s (by omega)]
  have := List.drop_eq_getElem_cons hl
  rw [this]; rfl
theorem charP_low {l r : List UInt8} {a : UInt8} (h : l = a :: r) (ha : a = 34 ∨ a < 32) : charP l = (-1, 0) := by subst h; rw [charP, if_pos ha]
theorem charP_plain {l r : List UInt8} {a : UInt8} (h : l = a :: r) (h1 : ¬ (a = 34 ∨ a < 32)) (h2 : a ≠ 92) : charP l = (if (uscal l).2 = 0 then -1 else (uscal l).1, (uscal l).2) := by subst h; rw [charP, if_neg h1, if_pos h2]
theorem charP_one {l : List UInt8} (h : l = [92]) : charP l = (-1, 0) := by subst h; rfl
theorem charP_u {l r : List UInt8} (h : l = 92 :: 117 :: r) : charP l = unitsP l := by subst h; rfl
theorem charP_simple {l r : List UInt8} {b : UInt8} (h : l = 92 :: b :: r) (hb : b ≠ 117) : charP l = (simpleP b.toNat, 2) := by
  subst h
  rw [charP, if_neg (by decide), if_neg (by decide), escP, if_neg hb]
theorem u8_int {a : UInt8} {n : Nat} (hn : n < 256) : (a.toNat : Int) = n ↔ a = UInt8.ofNat n := by
  constructor
  · intro h
    apply UInt8.toNat_inj.1
    simp only [UInt8.toNat_ofNat']; omega
  · intro h; subst h; simp only [UInt8.toNat_ofNat']; omega
theorem simple_to (c R : Int) (w : World) (h0 : 0 ≤ c) (h1 : c ≤ 255) (h : Hid (simpleP c = R)) :
    Calls Try.prog 40 #[.int .u8 c] w fun e w' => e = .returned (.int .i64 R) ∧ w = w' := by
  rw [← h.out]; exact simple_any c w h0 h1
theorem scalar_to (s : ByteArray) (C : Int) (N : Nat) (w : World) (hs : s.size ≤ maxLen) (h : Hid (uscal s.data.toList = (C, N))) :
    Calls Try.prog 38 #[.string s] w fun e w' => e = .returned (.tuple #[.int .i64 C, .int .i64 (N : Nat)]) ∧ w = w' := by
  have := scalar_any s w hs
  rw [h.out] at this; exact this
set_option maxRecDepth 100000 in
set_option maxHeartbeats 1000000 in
theorem char_any (s : ByteArray) (C : Int) (M : Nat) (w : World) (hs : s.size ≤ maxLen) (hC : Hid (charP s.data.toList = (C, M))) :
    Calls Try.prog 30 #[.string s] w fun e w' => e = .returned (.tuple #[.int .i64 C, .int .i64 (M : Nat)]) ∧ w = w' := by
  by_cases h0 : s.size = 0
  · have HR : Hid ((-1 : Int) = C ∧ (0 : Int) = (M : Nat)) := Lib.hid (by
      have := hC.out
      rw [show s.data.toList = [] from List.eq_nil_of_length_eq_zero (by rw [← Lib.size_eq]; exact h0)] at this
      simp only [charP, Prod.mk.injEq] at this
      exact ⟨this.1, by omega⟩)
    have hem : s.toList.isEmpty = true := by
      rw [ByteArray.toList_eq, show s.data.toList = [] from List.eq_nil_of_length_eq_zero (by rw [← Lib.size_eq]; exact h0)]; rfl
    go_enter Try.func30, Try.ntmps30
    go_wp2_with fail
    go_ret2
    exact ⟨ret_two HR.out.1 HR.out.2, rfl⟩
  · have hpos : 0 < s.size := by omega
    have hem : s.toList.isEmpty = false := by
      rw [ByteArray.toList_eq]
      have : s.data.toList.length = s.size := (Lib.size_eq s).symm
      cases hq : s.data.toList with
      | nil => rw [hq] at this; simp at this; omega
      | cons a l => rfl
    have hu := u8_le s[0]
    by_cases hlow : s[0] = 34 ∨ s[0] < 32
    · have HR : Hid ((-1 : Int) = C ∧ (0 : Int) = (M : Nat)) := Lib.hid (by
        have := hC.out
        rw [charP_low (list_cons s hpos) hlow] at this
        simp only [Prod.mk.injEq] at this
        exact ⟨this.1, by omega⟩)
      have hl : (s[0].toNat : Int) = 34 ∨ (¬ (s[0].toNat : Int) = 34 ∧ (s[0].toNat : Int) < 32) := by
        by_cases h : s[0] = 34
        · left; exact (u8_int (n := 34) (by decide)).2 h
        · right
          refine ⟨fun h' => h ((u8_int (n := 34) (by decide)).1 h'), ?_⟩
          have := hlow.resolve_left h
          have := UInt8.lt_iff_toNat_lt.1 this
          have e : (32 : UInt8).toNat = 32 := rfl
          omega
      clear hlow hC
      rcases hl with hl | ⟨hl, hl2⟩
      · have hbe : ((s[0].toNat : Int) == 34) = true := by rw [beq_iff_eq]; exact hl
        clear hl
        go_enter Try.func30, Try.ntmps30
        go_wp2_with fail
        go_ret2
        exact ⟨ret_two HR.out.1 HR.out.2, rfl⟩
      · have hbe : ((s[0].toNat : Int) == 34) = false := by rw [beq_eq_false_iff_ne]; exact hl
        go_enter Try.func30, Try.ntmps30
        go_wp2_with fail
        go_ret2
        exact ⟨ret_two HR.out.1 HR.out.2, rfl⟩
    · have hn34 : ¬ (s[0].toNat : Int) = 34 := fun h => hlow (.inl ((u8_int (n := 34) (by decide)).1 h))
      have hbe : ((s[0].toNat : Int) == 34) = false := by rw [beq_eq_false_iff_ne]; exact hn34
      have hge : ¬ (s[0].toNat : Int) < 32 := fun h => hlow (.inr (UInt8.lt_iff_toNat_lt.2 (by have e : (32 : UInt8).toNat = 32 := rfl
                                                                                               omega)))
      by_cases h92 : s[0] = 92
      case neg =>
        obtain ⟨c, m, hcm⟩ : ∃ c m, uscal s.data.toList = (c, m) := ⟨_, _, rfl⟩
        have HS := Lib.hid hcm
        have hb92 : ((s[0].toNat : Int) == 92) = false := by rw [beq_eq_false_iff_ne]; exact fun h => h92 ((u8_int (n := 92) (by decide)).1 h)
        have HR : Hid ((if m = 0 then -1 else c, m) = (C, M)) := Lib.hid (by
          rw [← hC.out, charP_plain (list_cons s hpos) hlow h92, hcm])
        clear hlow hC hcm h92 hn34
        by_cases hm : m = 0
        · subst hm
          have HR2 : Hid ((-1 : Int) = C ∧ ((0 : Nat) : Int) = (M : Nat)) := Lib.hid (by
            have := HR.out
            rw [if_pos rfl] at this
            simp only [Prod.mk.injEq] at this
            exact ⟨this.1, by omega⟩)
          go_enter Try.func30, Try.ntmps30
          go_wp2_with (go_at_call 38; refine (scalar_to s c 0 _ hs HS).mono ?_; rintro e w' ⟨rfl, rfl⟩)
          go_ret2
          exact ⟨ret_two HR2.out.1 HR2.out.2, rfl⟩
        · have HR2 : Hid (c = C ∧ (m : Int) = (M : Nat)) := Lib.hid (by
            have := HR.out
            rw [if_neg hm] at this
            simp only [Prod.mk.injEq] at this
            exact ⟨this.1, by omega⟩)
          have hmb : ((m : Int) == 0) = false := by rw [beq_eq_false_iff_ne]; omega
          go_enter Try.func30, Try.ntmps30
          go_wp2_with (go_at_call 38; refine (scalar_to s c m _ hs HS).mono ?_; rintro e w' ⟨rfl, rfl⟩)
          go_ret2
          exact ⟨ret_two HR2.out.1 HR2.out.2, rfl⟩
      case pos =>
      have hb92 : ((s[0].toNat : Int) == 92) = true := by rw [beq_iff_eq]; exact (u8_int (n := 92) (by decide)).2 h92
      by_cases h2 : s.size < 2
      · have HR : Hid ((-1 : Int) = C ∧ (0 : Int) = (M : Nat)) := Lib.hid (by
          have := hC.out
          rw [charP_one (by rw [list_cons s hpos, h92, List.drop_eq_nil_of_le (by rw [← Lib.size_eq]; omega)])] at this
          simp only [Prod.mk.injEq] at this
          exact ⟨this.1, by omega⟩)
        have h2' : (s.size : Int) < 2 := by omega
        clear hlow hC h92 hn34
        go_enter Try.func30, Try.ntmps30
        go_wp2_with fail
        go_ret2
        exact ⟨ret_two HR.out.1 HR.out.2, rfl⟩
      · have h2' : ¬ (s.size : Int) < 2 := by omega
        have h1s : 1 < s.size := by omega
        have hu1 := u8_le s[1]
        by_cases h117 : s[1] = 117
        · have hb117 : ((s[1].toNat : Int) == 117) = true := by rw [beq_iff_eq]; exact (u8_int (n := 117) (by decide)).2 h117
          have HU : Hid (unitsP s.data.toList = (C, M)) := Lib.hid (by
            rw [← hC.out]; exact (charP_u (by rw [list_cons2 s h1s, h92, h117])).symm)
          clear hlow hC h92 hn34 h117
          go_enter Try.func30, Try.ntmps30
          go_wp2_with fail
          refine (units_any s C M _ hs (by omega) HU).mono ?_; rintro e w' ⟨rfl, rfl⟩
          go_wp2_with fail
          go_ret2
          exact ⟨rfl, rfl⟩
        · have hb117 : ((s[1].toNat : Int) == 117) = false := by rw [beq_eq_false_iff_ne]; exact fun h => h117 ((u8_int (n := 117) (by decide)).1 h)
          obtain ⟨v, hv⟩ : ∃ v, Hid (simpleP s[1].toNat = v) := ⟨_, Lib.hid rfl⟩
          have HR : Hid (v = C ∧ (2 : Int) = (M : Nat)) := Lib.hid (by
            have := hC.out
            rw [charP_simple (by rw [list_cons2 s h1s, h92]) h117, hv.out] at this
            simp only [Prod.mk.injEq] at this
            exact ⟨this.1, by omega⟩)
          clear hlow hC h92 hn34 h117
          go_enter Try.func30, Try.ntmps30
          go_wp2_with (go_at_call 40; refine (simple_to _ v _ (by omega) (by omega) hv).mono ?_; rintro e w' ⟨rfl, rfl⟩)
          go_ret2
          exact ⟨ret_two HR.out.1 HR.out.2, rfl⟩
end Go.Proofs.Ytlckidgeooiboaa
