/- The walk of the reference's Between. -/
import Derived.Test.YtlckidgeooiboaaEW5
namespace Go.Proofs.Ytlckidgeooiboaa
open Go.RowKit Go.Proofs.Lw Go.Proofs.Le
set_option linter.unusedVariables false
/-- the place of a byte among 8 12 10 13 9; 5 -/
def kpos (c : Nat) : Nat := if c = 8 then 0 else if c = 12 then 1 else if c = 10 then 2 else if c = 13 then 3 else if c = 9 then 4 else 5
abbrev meanS : ByteArray := ⟨#[8, 12, 10, 13, 9]⟩
set_option maxRecDepth 100000 in
theorem mean_key : ∀ j : Fin 5, (meanS[j.1]'j.2).toNat = [8, 12, 10, 13, 9].getD j.1 0 := by decide
theorem kpos_lt (c : Nat) (j : Nat) (hj : j < 5) (h : j < kpos c) : (((meanS[j]'hj).toNat : Int) != (c : Int)) = true := by
  rw [bne_iff_ne, mean_key ⟨j, hj⟩]
  unfold kpos at h
  have : j = 0 ∨ j = 1 ∨ j = 2 ∨ j = 3 ∨ j = 4 := by omega
  rcases this with rfl | rfl | rfl | rfl | rfl
  all_goals (simp only [List.getD_cons_zero, List.getD_cons_succ]; revert h; (repeat' split) <;> omega)
theorem kpos_at (c : Nat) (j : Nat) (hj : j < 5) (h : j = kpos c) : (((meanS[j]'hj).toNat : Int) != (c : Int)) = false := by
  rw [bne_eq_false_iff_eq, mean_key ⟨j, hj⟩]
  unfold kpos at h
  have : j = 0 ∨ j = 1 ∨ j = 2 ∨ j = 3 ∨ j = 4 := by omega
  rcases this with rfl | rfl | rfl | rfl | rfl
  all_goals (simp only [List.getD_cons_zero, List.getD_cons_succ]; revert h; (repeat' split) <;> omega)
theorem kpos_le (c : Nat) : kpos c ≤ 5 := by unfold kpos; (repeat' split) <;> omega
theorem conv1 (W : World) (a : Int) : (convert 25 9 (.slice (some ⟨W.heap.size, 0, none⟩) 1 1)).run Try.prog (W.alloc (.cells #[.int .u8 a] 5)) = .ok (.string (strOfNums [a])) (W.alloc (.cells #[.int .u8 a] 5)) := by
  have := conv_new W [a] 1 rfl
  simpa using this
theorem conv2 (W : World) (a b : Int) : (convert 25 9 (.slice (some ⟨W.heap.size, 0, none⟩) 2 2)).run Try.prog (W.alloc (.cells #[.int .u8 a, .int .u8 b] 5)) = .ok (.string (strOfNums [a, b])) (W.alloc (.cells #[.int .u8 a, .int .u8 b] 5)) := by
  have := conv_new W [a, b] 2 rfl
  simpa using this
theorem conv6 (W : World) (a b c d e f : Int) : (convert 25 9 (.slice (some ⟨W.heap.size, 0, none⟩) 6 6)).run Try.prog (W.alloc (.cells #[.int .u8 a, .int .u8 b, .int .u8 c, .int .u8 d, .int .u8 e, .int .u8 f] 5)) = .ok (.string (strOfNums [a, b, c, d, e, f])) (W.alloc (.cells #[.int .u8 a, .int .u8 b, .int .u8 c, .int .u8 d, .int .u8 e, .int .u8 f] 5)) := by
  have := conv_new W [a, b, c, d, e, f] 6 rfl
  simpa using this
theorem conv_drew (W : World) (xs : List Int) (n : Nat) (hn : xs.length = n) :
    (convert 25 9 (.slice (some ⟨W.heap.size, 0, none⟩) n n)).run Try.prog (W.alloc (.cells (xs.map (Value.int .u8)).toArray 5)).drew = .ok (.string (strOfNums xs)) (W.alloc (.cells (xs.map (Value.int .u8)).toArray 5)).drew := by
  refine run_convert_bytes_arg _ 25 5 Try.underlying25 Try.underlying5 W.heap.size 0 n n xs hn ?_ 9 Try.underlying9
  intro i hi
  have hi' : i < xs.length := by omega
  show (W.alloc (.cells (xs.map (Value.int .u8)).toArray 5)).cell? _ = _
  rw [World.cell?_alloc_new]
  simp [List.getD, List.getElem?_eq_getElem hi']
theorem conv6d (W : World) (a b c d e f : Int) : (convert 25 9 (.slice (some ⟨W.heap.size, 0, none⟩) 6 6)).run Try.prog (W.alloc (.cells #[.int .u8 a, .int .u8 b, .int .u8 c, .int .u8 d, .int .u8 e, .int .u8 f] 5)).drew = .ok (.string (strOfNums [a, b, c, d, e, f])) (W.alloc (.cells #[.int .u8 a, .int .u8 b, .int .u8 c, .int .u8 d, .int .u8 e, .int .u8 f] 5)).drew := by
  have := conv_drew W [a, b, c, d, e, f] 6 rfl
  simpa using this
theorem size1 (a : Int) : (strOfNums [a]).size = 1 := rfl
theorem size2 (a b : Int) : (strOfNums [a, b]).size = 2 := rfl
theorem size6 (a b c d e f : Int) : (strOfNums [a, b, c, d, e, f]).size = 6 := rfl
theorem str1 (c : UInt8) : (strOfNums [(c.toNat : Int)]).data.toList = [c] := by rw [strOfNums_data]; simp
theorem of_list {A : ByteArray} {l : List UInt8} (h : A.data.toList = l) : A = (⟨l.toArray⟩ : ByteArray) := by
  apply ByteArray.ext; apply Array.toList_inj.1; exact h
theorem strOne (c : UInt8) : strOfNums [(c.toNat : Int)] = (⟨[c].toArray⟩ : ByteArray) := of_list (str1 c)
theorem str92 (c : UInt8) : strOfNums [92, (c.toNat : Int)] = (⟨[92, c].toArray⟩ : ByteArray) := of_list (by rw [strOfNums_data]; simp)
abbrev signS : ByteArray := ⟨#[98, 102, 110, 114, 116]⟩
set_option maxRecDepth 100000 in
theorem sign_key : ∀ j : Fin 5, (signS[j.1]'j.2) = [98, 102, 110, 114, 116].getD j.1 0 := by decide
theorem sign_list (c : UInt8) (j : Nat) (hj : j < 5) (h : kpos c.toNat = j) : strOfNums [92, ((signS[j]'hj).toNat : Int)] = (⟨(if c < 32 then ctlB c.toNat else [c]).toArray⟩ : ByteArray) := by
  have hc : c.toNat = 8 ∨ c.toNat = 12 ∨ c.toNat = 10 ∨ c.toNat = 13 ∨ c.toNat = 9 := by
    unfold kpos at h
    revert h; (repeat' split) <;> omega
  have hlow : c < 32 := (u8_lt32 c).2 (by omega)
  rw [if_pos hlow]
  refine of_list ?_
  rw [strOfNums_data, sign_key ⟨j, hj⟩]
  show List.map (fun n => UInt8.ofNat n.toNat) [92, (((([98, 102, 110, 114, 116] : List UInt8).getD j 0).toNat : Nat) : Int)] = ctlB c.toNat
  rw [← h]
  rcases hc with hc | hc | hc | hc | hc
  all_goals (rw [hc]; decide)
set_option maxRecDepth 100000 in
theorem dig_key : ∀ j : Fin 16, (hexS[j.1]'j.2) = hexd j.1 := by decide
theorem ctl_list (c : UInt8) (hi lo : Nat) (h1 : hi < 16) (h2 : lo < 16) (e1 : hi = c.toNat / 16) (e2 : lo = c.toNat % 16) (h5 : kpos c.toNat = 5) : strOfNums [92, 117, 48, 48, ((hexS[hi]'h1).toNat : Int), ((hexS[lo]'h2).toNat : Int)] = (⟨(ctlB c.toNat).toArray⟩ : ByteArray) := by
  refine of_list ?_
  rw [strOfNums_data, dig_key ⟨hi, h1⟩, dig_key ⟨lo, h2⟩]
  have hc : ¬ (c.toNat = 8) ∧ ¬ (c.toNat = 12) ∧ ¬ (c.toNat = 10) ∧ ¬ (c.toNat = 13) ∧ ¬ (c.toNat = 9) := by
    unfold kpos at h5
    revert h5; (repeat' split) <;> omega
  rw [ctlB, if_neg hc.1, if_neg hc.2.1, if_neg hc.2.2.1, if_neg hc.2.2.2.1, if_neg hc.2.2.2.2]
  show List.map (fun n => UInt8.ofNat n.toNat) [92, 117, 48, 48, (((hexd hi).toNat : Nat) : Int), (((hexd lo).toNat : Nat) : Int)] = _
  rw [e1, e2]
  simp
theorem next_S {m c : UInt8} {S X : ByteArray} {l : List UInt8} {k : Nat} (hS : Hid (S.data.toList = [m] ++ escL m (l.take k))) (hN : Hid (escL m (l.take (k + 1)) = escL m (l.take k) ++ escB m c)) (hE : Hid (X = (⟨(escB m c).toArray⟩ : ByteArray))) :
    Hid ((S ++ X).data.toList = [m] ++ escL m (l.take (k + 1))) := Lib.hid (by
  rw [hN.out, hE.out, ← List.append_assoc, ← hS.out]; simp)
theorem wrap_u8 (n : Nat) (h : n < 256) : IntKind.u8.wrap (n : Int) = (n : Int) := by rw [IntKind.wrap_u8]; omega
theorem quot16 (c : UInt8) : ∃ hi lo : Nat, (c.toNat : Int) / 16 = (hi : Int) ∧ (c.toNat : Int) % 16 = (lo : Int) ∧ hi < 16 ∧ lo < 16 ∧ Hid (hi = c.toNat / 16 ∧ lo = c.toNat % 16) := by
  have := c.toNat_lt
  exact ⟨c.toNat / 16, c.toNat % 16, by omega, by omega, by omega, by omega, Lib.hid ⟨rfl, rfl⟩⟩
set_option maxRecDepth 100000 in
set_option maxHeartbeats 2000000 in
theorem rbetween_any (s : ByteArray) (m : UInt8) (T : ByteArray) (w : World) (hs : s.size ≤ 1000) (hT : Hid (T.data.toList = betL m s.data.toList)) :
    Calls Try.prog 18 #[.string s, .int .u8 (m.toNat : Nat)] w fun e w' => e = .returned (.string T) ∧ Below w.heap.size w w' := by
  have hsz : Hid (s.size = s.data.toList.length) := Lib.hid (Lib.size_eq s)
  have hc1 := conv1
  have hc2 := conv2
  have hc6 := conv6
  have hc6d := conv6d
  have z1 := size1
  have z2 := size2
  have z6 := size6
  go_enter Try.func18, Try.ntmps18
  go_wp2_with fail
  go_loopg [5, 6] s.size (fun g v i wr => ∃ (k : Nat) (S : ByteArray), k ≤ s.size ∧ g = s.size - k ∧ v = .string S ∧ i = .int .i64 k ∧ S.size ≤ 6 * k + 1 ∧ Hid (S.data.toList = [m] ++ escL m (s.data.toList.take k)) ∧ Hid (Below w.heap.size w wr))
  case atStart => exact ⟨0, _, Nat.zero_le _, rfl, rfl, rfl, by rw [size1]; omega, Lib.hid (by simp [escL, str1]), Lib.hid ((Below.refl _ w).alloc (Nat.le_refl _) _)⟩
  case round =>
    obtain ⟨k, S, hk, rfl, rfl, rfl, hSz, hS, hK⟩ := hrel
    have hBr : w.heap.size ≤ wr.heap.size := hK.out.size
    by_cases hlt : k < s.size
    · have hdk : decide ((k : Int) < (s.size : Int)) = true := by rw [decide_eq_true_eq]; omega
      have hN := Lib.hid (escL_snoc m s k hlt)
      obtain ⟨c, hc⟩ : ∃ c, s[k] = c := ⟨_, rfl⟩
      rw [hc] at hN
      have hcu := u8_le c
      have hKl := kpos_le c.toNat
      obtain ⟨K, hKK⟩ : ∃ K, kpos c.toNat = K := ⟨_, rfl⟩
      rw [hKK] at hKl
      have HKK := Lib.hid hKK
      clear hKK
      have w1 : ¬ 9223372036854775807 < S.size + 1 := by omega
      have w2 : ¬ 9223372036854775807 < S.size + 2 := by omega
      have w6 : ¬ 9223372036854775807 < S.size + 6 := by omega
      obtain ⟨hi, lo, q1, q2, hhi, hlo, hdv⟩ := quot16 c
      have q3 : (c.toNat : Int).tdiv 16 = (hi : Int) := by rw [Int.tdiv_eq_ediv_of_nonneg (by omega)]; exact q1
      have q4 : (c.toNat : Int).tmod 16 = (lo : Int) := by rw [Int.tmod_eq_emod_of_nonneg (by omega)]; exact q2
      have q5 : (hi : Int) < 16 := by omega
      have q6 : (lo : Int) < 16 := by omega
      have q7 := wrap_u8 hi (by omega)
      have q8 := wrap_u8 lo (by omega)
      go_wp2_with fail
      go_loopg [10] (K + 1) (fun g v wx => ∃ j : Nat, j ≤ K ∧ g = K + 1 - j ∧ v = .int .i64 j ∧ wx = wr)
      case atStart => exact ⟨0, Nat.zero_le _, rfl, rfl, rfl⟩
      case round =>
        obtain ⟨j, hj, rfl, rfl, rfl⟩ := hrel
        by_cases hjK : j < K
        · have hj5 : decide ((j : Int) < 5) = true := by rw [decide_eq_true_eq]; omega
          have hne := kpos_lt c.toNat j (by omega) (by rw [HKK.out]; exact hjK)
          go_wp2_with fail
          go_roundg (K + 1 - (j + 1))
          case measure => go_light; omega
          case rel => go_light; exact ⟨j + 1, by omega, rfl, by go_num, rfl⟩
        · obtain rfl : j = K := by omega
          clear hjK hj
          have hKd := HKK.out
          by_cases hmk : c = m ∨ c = 92
          · have hE : Hid (strOfNums [92, (c.toNat : Int)] = (⟨(escB m c).toArray⟩ : ByteArray)) := Lib.hid (by rw [escB, if_pos hmk]; exact str92 c)
            have hb : ((c.toNat : Int) == (m.toNat : Int)) = true ∨ (((c.toNat : Int) == (m.toNat : Int)) = false ∧ ((c.toNat : Int) == 92) = true) := by
              by_cases h' : c = m
              · left; rw [beq_iff_eq, h']
              · right
                refine ⟨?_, ?_⟩
                · rw [beq_eq_false_iff_ne]; exact fun e => h' (UInt8.toNat_inj.1 (by omega))
                · rw [beq_iff_eq]; exact (u8_int (n := 92) (by decide)).2 (hmk.resolve_left h')
            clear hmk
            by_cases h5 : j < 5
            · have hj5 : decide ((j : Int) < 5) = true := by rw [decide_eq_true_eq]; omega
              have hne := kpos_at c.toNat j h5 hKd.symm
              clear hKd
              rcases hb with hb | ⟨hb, hb2⟩
              all_goals
                go_wp2_with fail
                go_roundg (s.size - (k + 1))
                case measure => go_light; omega
                case rel => go_light; exact ⟨k + 1, _, by omega, rfl, rfl, by go_num, by rw [ByteArray.size_append, size2]; omega, next_S hS hN hE, Lib.hid (hK.out.alloc hBr _)⟩
            · have hj5 : decide ((j : Int) < 5) = false := by rw [decide_eq_false_iff_not]; omega
              clear hKd
              rcases hb with hb | ⟨hb, hb2⟩
              all_goals
                go_wp2_with fail
                go_roundg (s.size - (k + 1))
                case measure => go_light; omega
                case rel => go_light; exact ⟨k + 1, _, by omega, rfl, rfl, by go_num, by rw [ByteArray.size_append, size2]; omega, next_S hS hN hE, Lib.hid (hK.out.alloc hBr _)⟩
          · have hbm : ((c.toNat : Int) == (m.toNat : Int)) = false := by
              rw [beq_eq_false_iff_ne]; exact fun e => hmk (.inl (UInt8.toNat_inj.1 (by omega)))
            have hb92 : ((c.toNat : Int) == 92) = false := by
              rw [beq_eq_false_iff_ne]; exact fun e => hmk (.inr ((u8_int (n := 92) (by decide)).1 e))
            by_cases h5 : j < 5
            · have hj5 : decide ((j : Int) < 5) = true := by rw [decide_eq_true_eq]; omega
              have hne := kpos_at c.toNat j h5 hKd.symm
              have hE : Hid (strOfNums [92, ((signS[j]'h5).toNat : Int)] = (⟨(escB m c).toArray⟩ : ByteArray)) := Lib.hid (by rw [escB, if_neg hmk]; exact sign_list c j h5 hKd)
              clear hKd hmk
              go_wp2_with fail
              go_roundg (s.size - (k + 1))
              case measure => go_light; omega
              case rel => go_light; exact ⟨k + 1, _, by omega, rfl, rfl, by go_num, by rw [ByteArray.size_append, size2]; omega, next_S hS hN hE, Lib.hid (hK.out.alloc hBr _)⟩
            · have hj5 : decide ((j : Int) < 5) = false := by rw [decide_eq_false_iff_not]; omega
              by_cases hlow : c < 32
              · have hl32 : (c.toNat : Int) < 32 := (u8_lt32 c).1 hlow
                have hE : Hid (strOfNums [92, 117, 48, 48, ((hexS[hi]'hhi).toNat : Int), ((hexS[lo]'hlo).toNat : Int)] = (⟨(escB m c).toArray⟩ : ByteArray)) := Lib.hid (by
                  rw [escB, if_neg hmk, if_pos hlow]; exact ctl_list c hi lo hhi hlo hdv.out.1 hdv.out.2 (by omega))
                clear hKd hmk hlow
                go_wp2_with fail
                go_region_with (fail)
                all_goals
                  go_wp2_with fail
                  go_roundg (s.size - (k + 1))
                  case measure => go_light; omega
                  case rel => go_light; exact ⟨k + 1, _, by omega, rfl, rfl, by go_num, by rw [ByteArray.size_append, size6]; omega, next_S hS hN hE, Lib.hid ((hK.out.alloc hBr _).drew)⟩
              · have hl32 : ¬ (c.toNat : Int) < 32 := fun h => hlow ((u8_lt32 c).2 h)
                have hE : Hid (strOfNums [(c.toNat : Int)] = (⟨(escB m c).toArray⟩ : ByteArray)) := Lib.hid (by
                  have e5 : kpos c.toNat = 5 := by omega
                  rw [escB, if_neg hmk, if_neg hlow]; exact strOne c)
                clear hKd hmk hlow
                go_wp2_with fail
                go_roundg (s.size - (k + 1))
                case measure => go_light; omega
                case rel => go_light; exact ⟨k + 1, _, by omega, rfl, rfl, by go_num, by rw [ByteArray.size_append, size1]; omega, next_S hS hN hE, Lib.hid (hK.out.alloc hBr _)⟩
    · have hdk : decide ((k : Int) < (s.size : Int)) = false := by rw [decide_eq_false_iff_not]; omega
      have w1 : ¬ 9223372036854775807 < S.size + 1 := by omega
      have hE : Hid (S ++ strOfNums [(m.toNat : Int)] = T) := Lib.hid (by
        apply ByteArray.ext; apply Array.toList_inj.1
        rw [hT.out, betL]
        have := hS.out
        rw [List.take_of_length_le (by rw [← hsz.out]; omega)] at this
        rw [← this, ← str1 m]; simp)
      go_wp2_with fail
      go_ret
      exact ⟨ret_str hE.out, hK.out.alloc hBr _⟩
theorem rquote_any (s T : ByteArray) (w : World) (hs : s.size ≤ 1000) (hT : Hid (T.data.toList = betL 34 s.data.toList)) :
    Calls Try.prog 17 #[.string s] w fun e w' => e = .returned (.string T) ∧ Below w.heap.size w w' := by
  go_enter Try.func17, Try.ntmps17
  go_wp2_with fail
  refine (rbetween_any s 34 T _ hs hT).mono ?_; rintro e w1 ⟨rfl, hb⟩
  have HB := Lib.hid hb
  clear hb
  go_wp2_with fail
  go_ret
  exact ⟨rfl, HB.out⟩
end Go.Proofs.Ytlckidgeooiboaa
