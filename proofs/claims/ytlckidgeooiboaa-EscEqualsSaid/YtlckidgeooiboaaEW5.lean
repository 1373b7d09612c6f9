/- The walks of between, Quote, Single. -/
import Derived.Test.YtlckidgeooiboaaEW4
namespace Go.Proofs.Ytlckidgeooiboaa
open Go.RowKit Go.Proofs.Lw Go.Proofs.Le
set_option linter.unusedVariables false

theorem right_to (s : ByteArray) (R : Bool) (w : World) (hs : s.size ≤ maxLen) (h : Hid (uright s.data.toList = R)) :
    Calls Try.prog 25 #[.string s] w fun e w' => e = .returned (.bool R) ∧ w = w' := by
  rw [← h.out]; exact right_any s w hs
theorem sb_new (B : Nat) (w : World) (hB : B ≤ w.heap.size) : SB B w.heap.size [] (w.alloc (.cells #[.pointer none, .slice none 0 0] 39)) :=
  .inl ⟨hB, .slice none 0 0, World.alloc_heap_new w _, World.ownsRowF_nil _ _ _ _, by simp [Value.ownBlock]⟩
theorem u8_lt32 (c : UInt8) : c < 32 ↔ (c.toNat : Int) < 32 := by
  rw [UInt8.lt_iff_toNat_lt, show (32 : UInt8).toNat = 32 from rfl]; omega
theorem escL_snoc (m : UInt8) (s : ByteArray) (k : Nat) (h : k < s.size) : escL m (s.data.toList.take (k + 1)) = escL m (s.data.toList.take k) ++ escB m s[k] := by
  have hl : k < s.data.toList.length := by rw [← Lib.size_eq]; exact h
  rw [List.take_succ_eq_append_getElem hl, escL_append]
  have : s.data.toList[k] = s[k] := rfl
  rw [this]; simp [escL]
set_option maxRecDepth 100000 in
theorem between_no (s : ByteArray) (m : Int) (w : World) (hs : s.size ≤ 1000) (h : Hid (uright s.data.toList = false)) :
    Calls Try.prog 27 #[.string s, .int .u8 m] w fun e w' => e = .returned (.tuple #[.string ⟨#[]⟩, .int .i64 3]) ∧ w = w' := by
  go_enter Try.func27, Try.ntmps27
  go_wp2_with fail
  refine (right_to s false _ (by unfold maxLen; omega) h).mono ?_; rintro e w1 ⟨rfl, rfl⟩
  go_wp2_with fail
  go_ret2
  exact ⟨rfl, rfl⟩
set_option maxRecDepth 100000 in
set_option maxHeartbeats 2000000 in
theorem between_any (s : ByteArray) (m : UInt8) (T : ByteArray) (w : World) (hs : s.size ≤ 1000) (h : Hid (uright s.data.toList = true)) (hT : Hid (T.data.toList = betL m s.data.toList)) :
    Calls Try.prog 27 #[.string s, .int .u8 (m.toNat : Nat)] w fun e w' => e = .returned (.tuple #[.string T, .int .i64 0]) ∧ Below w.heap.size w w' := by
  have hsz : Hid (s.size = s.data.toList.length) := Lib.hid (Lib.size_eq s)
  have hS0 := Lib.hid (sb_new w.heap.size w (Nat.le_refl _))
  have hK0 : Hid (Below w.heap.size w (w.alloc (.cells #[.pointer none, .slice none 0 0] 39))) := Lib.hid ((Below.refl _ w).alloc (Nat.le_refl _) _)
  go_enter Try.func27, Try.ntmps27
  go_wp2_with fail
  refine (right_to s true _ (by unfold maxLen; omega) h).mono ?_; rintro e w1 ⟨rfl, rfl⟩
  go_wp2_with fail
  refine (sb_writeU8 w.heap.size w.heap.size [] m _ hS0.out (by simp) (by simp)).mono ?_; rintro e w2 ⟨rfl, h1, h2⟩
  have hS1 : Hid (SB w.heap.size w.heap.size ([m] ++ escL m (s.data.toList.take 0)) w2) := Lib.hid (h1.eq (by simp [escL]))
  have hK1 := Lib.hid (hK0.out.trans h2.1)
  clear h1 h2 hS0 hK0
  go_wp2_with fail
  go_loopg [16] s.size (fun g v wr => ∃ k : Nat, k ≤ s.size ∧ g = s.size - k ∧ v = .int .i64 k ∧ Hid (SB w.heap.size w.heap.size ([m] ++ escL m (s.data.toList.take k)) wr) ∧ Hid (Below w.heap.size w wr))
  case atStart => exact ⟨0, Nat.zero_le _, rfl, rfl, hS1, hK1⟩
  case round =>
    clear hS1 hK1
    obtain ⟨k, hk, rfl, rfl, hS, hK⟩ := hrel
    have hBr : w.heap.size ≤ wr.heap.size := hK.out.size
    have hlen : ([m] ++ escL m (s.data.toList.take k)).length ≤ 6001 := by
      have h1 := escL_len m (s.data.toList.take k)
      rw [List.length_take, ← hsz.out] at h1
      rw [List.length_append]; simp only [List.length_cons, List.length_nil]; omega
    by_cases hlt : k < s.size
    · have hdk : decide ((k : Int) < (s.size : Int)) = true := by rw [decide_eq_true_eq]; omega
      have hN := Lib.hid (escL_snoc m s k hlt)
      obtain ⟨c, hc⟩ : ∃ c, s[k] = c := ⟨_, rfl⟩
      rw [hc] at hN
      have hcu := u8_le c
      by_cases hmk : c = m ∨ c = 92
      · have hE : Hid (([m] ++ escL m (s.data.toList.take k)) ++ [UInt8.ofNat (92 : Int).toNat] ++ [c] = [m] ++ escL m (s.data.toList.take (k + 1))) := Lib.hid (by
          rw [hN.out, escB, if_pos hmk]; simp)
        have hb : ((c.toNat : Int) == (m.toNat : Int)) = true ∨ (((c.toNat : Int) == (m.toNat : Int)) = false ∧ ((c.toNat : Int) == 92) = true) := by
          by_cases h' : c = m
          · left; rw [beq_iff_eq, h']
          · right
            refine ⟨?_, ?_⟩
            · rw [beq_eq_false_iff_ne]; exact fun e => h' (UInt8.toNat_inj.1 (by omega))
            · rw [beq_iff_eq]; exact (u8_int (n := 92) (by decide)).2 (hmk.resolve_left h')
        clear hmk hN
        rcases hb with hb | ⟨hb, hb2⟩
        all_goals
          go_wp2_with fail
          refine (sb_writeByte w.heap.size w.heap.size _ 92 _ hS.out (by omega) hBr (by omega) (by omega)).mono ?_; rintro e w3 ⟨rfl, h1, h2⟩
          have H1 := Lib.hid h1
          have HK1 := Lib.hid (hK.out.trans h2.1)
          have hB3 : w.heap.size ≤ w3.heap.size := HK1.out.size
          clear h1 h2
          go_wp2_with fail
          refine (sb_writeU8 w.heap.size w.heap.size _ c _ H1.out (by rw [List.length_append]; simp only [List.length_cons, List.length_nil]; omega) hB3).mono ?_; rintro e w4 ⟨rfl, h1, h2⟩
          have H2 := Lib.hid (h1.eq hE.out)
          have HK2 := Lib.hid (HK1.out.trans h2.1)
          clear h1 h2
          go_wp2_with fail
          go_roundg (s.size - (k + 1))
          case measure => go_light; omega
          case rel => go_light; exact ⟨k + 1, by omega, rfl, by go_num, H2, HK2⟩
      · have hbm : ((c.toNat : Int) == (m.toNat : Int)) = false := by
          rw [beq_eq_false_iff_ne]; exact fun e => hmk (.inl (UInt8.toNat_inj.1 (by omega)))
        have hb92 : ((c.toNat : Int) == 92) = false := by
          rw [beq_eq_false_iff_ne]; exact fun e => hmk (.inr ((u8_int (n := 92) (by decide)).1 e))
        by_cases hlow : c < 32
        · have hl32 : (c.toNat : Int) < 32 := (u8_lt32 c).1 hlow
          have hE : Hid (([m] ++ escL m (s.data.toList.take k)) ++ ctlB c.toNat = [m] ++ escL m (s.data.toList.take (k + 1))) := Lib.hid (by
            rw [hN.out, escB, if_neg hmk, if_pos hlow]; simp)
          clear hmk hlow hN
          go_wp2_with fail
          refine (sign_any c.toNat (by omega) w.heap.size w.heap.size _ _ hS (by omega) hBr).mono ?_; rintro e w3 ⟨rfl, h1, h2⟩
          have H2 := Lib.hid (h1.eq hE.out)
          have HK2 := Lib.hid (hK.out.trans h2.1)
          clear h1 h2
          go_wp2_with fail
          go_roundg (s.size - (k + 1))
          case measure => go_light; omega
          case rel => go_light; exact ⟨k + 1, by omega, rfl, by go_num, H2, HK2⟩
        · have hl32 : ¬ (c.toNat : Int) < 32 := fun h => hlow ((u8_lt32 c).2 h)
          have hE : Hid (([m] ++ escL m (s.data.toList.take k)) ++ [c] = [m] ++ escL m (s.data.toList.take (k + 1))) := Lib.hid (by
            rw [hN.out, escB, if_neg hmk, if_neg hlow]; simp)
          clear hmk hlow hN
          go_wp2_with fail
          refine (sb_writeU8 w.heap.size w.heap.size _ c _ hS.out (by omega) hBr).mono ?_; rintro e w3 ⟨rfl, h1, h2⟩
          have H2 := Lib.hid (h1.eq hE.out)
          have HK2 := Lib.hid (hK.out.trans h2.1)
          clear h1 h2
          go_wp2_with fail
          go_roundg (s.size - (k + 1))
          case measure => go_light; omega
          case rel => go_light; exact ⟨k + 1, by omega, rfl, by go_num, H2, HK2⟩
    · have hdk : decide ((k : Int) < (s.size : Int)) = false := by rw [decide_eq_false_iff_not]; omega
      have hE : Hid (([m] ++ escL m (s.data.toList.take k)) ++ [m] = T.data.toList) := Lib.hid (by
        rw [List.take_of_length_le (by rw [← hsz.out]; omega), hT.out, betL])
      go_wp2_with fail
      refine (sb_writeU8 w.heap.size w.heap.size _ m _ hS.out (by omega) hBr).mono ?_; rintro e w3 ⟨rfl, h1, h2⟩
      have H2 := Lib.hid (h1.eq hE.out)
      have HK2 := Lib.hid (hK.out.trans h2.1)
      have hB3 : w.heap.size ≤ w3.heap.size := HK2.out.size
      clear h1 h2
      go_wp2_with fail
      refine (sb_string w.heap.size w.heap.size _ _ H2.out hB3).mono ?_; rintro e w4 ⟨rfl, h1, h2⟩
      have HK3 := Lib.hid (HK2.out.trans h2.1)
      clear h1 h2
      go_wp2_with fail
      go_ret2
      exact ⟨rfl, HK3.out⟩
theorem quote_any (s T : ByteArray) (w : World) (hs : s.size ≤ 1000) (h : Hid (uright s.data.toList = true)) (hT : Hid (T.data.toList = betL 34 s.data.toList)) :
    Calls Try.prog 14 #[.string s] w fun e w' => e = .returned (.tuple #[.string T, .int .i64 0]) ∧ Below w.heap.size w w' := by
  go_enter Try.func14, Try.ntmps14
  go_wp2_with fail
  refine (between_any s 34 T _ hs h hT).mono ?_; rintro e w1 ⟨rfl, hb⟩
  have HB := Lib.hid hb
  clear hb
  go_wp2_with fail
  go_ret2
  exact ⟨rfl, HB.out⟩
theorem single_any (s T : ByteArray) (w : World) (hs : s.size ≤ 1000) (h : Hid (uright s.data.toList = true)) (hT : Hid (T.data.toList = betL 39 s.data.toList)) :
    Calls Try.prog 15 #[.string s] w fun e w' => e = .returned (.tuple #[.string T, .int .i64 0]) ∧ Below w.heap.size w w' := by
  go_enter Try.func15, Try.ntmps15
  go_wp2_with fail
  refine (between_any s 39 T _ hs h hT).mono ?_; rintro e w1 ⟨rfl, hb⟩
  have HB := Lib.hid hb
  clear hb
  go_wp2_with fail
  go_ret2
  exact ⟨rfl, HB.out⟩
theorem quote_no (s : ByteArray) (w : World) (hs : s.size ≤ 1000) (h : Hid (uright s.data.toList = false)) :
    Calls Try.prog 14 #[.string s] w fun e w' => e = .returned (.tuple #[.string ⟨#[]⟩, .int .i64 3]) ∧ w = w' := by
  go_enter Try.func14, Try.ntmps14
  go_wp2_with fail
  refine (between_no s 34 _ hs h).mono ?_; rintro e w1 ⟨rfl, rfl⟩
  go_wp2_with fail
  go_ret2
  exact ⟨rfl, rfl⟩
theorem single_no (s : ByteArray) (w : World) (hs : s.size ≤ 1000) (h : Hid (uright s.data.toList = false)) :
    Calls Try.prog 15 #[.string s] w fun e w' => e = .returned (.tuple #[.string ⟨#[]⟩, .int .i64 3]) ∧ w = w' := by
  go_enter Try.func15, Try.ntmps15
  go_wp2_with fail
  refine (between_no s 39 _ hs h).mono ?_; rintro e w1 ⟨rfl, rfl⟩
  go_wp2_with fail
  go_ret2
  exact ⟨rfl, rfl⟩
end Go.Proofs.Ytlckidgeooiboaa
