/- TopText: walks and plain laws, part 40: lemmas on what the functions that the law comes to compute. -/
import Derived.Test.YtjelneeeijjpiaaGreatDoorG39
import Derived.Test.YtjelneeeijjpiaaGreatDoorG38
import Derived.Test.YtjelneeeijjpiaaGreatDoorG06
set_option linter.unusedVariables false
set_option linter.unusedSimpArgs false
section
set_option maxRecDepth 100000
namespace Go.Proofs.YtjelneeeijjpiaaGreatDoor.Tx
open Go.RowKit Go.Proofs.Lw Go.Proofs.Le
theorem right_to (s : ByteArray) (R : Bool) (w : World) (hs : s.size ≤ maxLen) (h : Hid (uright s.data.toList = R)) :
    Calls Tryz.prog 324 #[.string s] w fun e w' => e = .returned (.bool R) ∧ w = w' := by
  rw [← h.out]; exact right_any s w hs
theorem sb_new (B : Nat) (w : World) (hB : B ≤ w.heap.size) : SB B w.heap.size [] (w.alloc (.cells #[.pointer none, .slice none 0 0] 146)) :=
  .inl ⟨hB, .slice none 0 0, World.alloc_heap_new w _, World.ownsRowF_nil _ _ _ _, by simp [Value.ownBlock]⟩
theorem u8_lt32 (c : UInt8) : c < 32 ↔ (c.toNat : Int) < 32 := by
  rw [UInt8.lt_iff_toNat_lt, show (32 : UInt8).toNat = 32 from rfl]; omega
theorem escL_snoc (m : UInt8) (s : ByteArray) (k : Nat) (h : k < s.size) : escL m (s.data.toList.take (k + 1)) = escL m (s.data.toList.take k) ++ escB m s[k] := by
  have hl : k < s.data.toList.length := by rw [← Lib.size_eq]; exact h
  rw [List.take_succ_eq_append_getElem hl, escL_append]
  have : s.data.toList[k] = s[k] := rfl
  rw [this]; simp [escL]
set_option maxRecDepth 100000 in
set_option maxHeartbeats 2000000 in
theorem between_any (s : ByteArray) (m : UInt8) (T : ByteArray) (w : World) (hs : s.size ≤ 1000) (h : Hid (uright s.data.toList = true)) (hT : Hid (T.data.toList = betL m s.data.toList)) :
    Calls Tryz.prog 301 #[.string s, .int .u8 (m.toNat : Nat)] w fun e w' => e = .returned (.tuple #[.string T, .int .i64 0]) ∧ Below w.heap.size w w' := by
  have hsz : Hid (s.size = s.data.toList.length) := Lib.hid (Lib.size_eq s)
  have hS0 := Lib.hid (sb_new w.heap.size w (Nat.le_refl _))
  have hK0 : Hid (Below w.heap.size w (w.alloc (.cells #[.pointer none, .slice none 0 0] 146))) := Lib.hid ((Below.refl _ w).alloc (Nat.le_refl _) _)
  go_enter Tryz.func301, Tryz.ntmps301
  go_wp2_with fail
  refine (right_to s true _ (by unfold maxLen; omega) h).mono ?_; rintro e w1 ⟨rfl, rfl⟩
  go_wp2_with fail
  refine (sb_writeU8 w.heap.size w.heap.size [] m _ hS0.out (by simp) (by simp)).mono ?_; rintro e w2 ⟨rfl, h1, h2⟩
  have hS1 : Hid (SB w.heap.size w.heap.size ([m] ++ escL m (s.data.toList.take 0)) w2) := Lib.hid (h1.eq (by simp [escL]))
  have hK1 := Lib.hid (hK0.out.trans h2.1)
  clear h1 h2 hS0 hK0
  go_wp2_with fail
  go_loopg [16] s.size (fun g v wr => ∃ k : Nat, k ≤ s.size ∧ g = s.size - k ∧ v = .int .i64 k ∧ Hid (SB w.heap.size w.heap.size ([m] ++ escL m (s.data.toList.take k)) wr) ∧ Hid (Below w.heap.size w wr))
  case atStart => exact ⟨0, Nat.zero_le _, rfl, rfl, hS1, hK1⟩
  case round =>
    clear hS1 hK1
    obtain ⟨k, hk, rfl, rfl, hS, hK⟩ := hrel
    have hBr : w.heap.size ≤ wr.heap.size := hK.out.size
    have hlen : ([m] ++ escL m (s.data.toList.take k)).length ≤ 6001 := by
      have h1 := escL_len m (s.data.toList.take k)
      rw [List.length_take, ← hsz.out] at h1
      rw [List.length_append]; simp only [List.length_cons, List.length_nil]; omega
    by_cases hlt : k < s.size
    · have hdk : decide ((k : Int) < (s.size : Int)) = true := by rw [decide_eq_true_eq]; omega
      have hN := Lib.hid (escL_snoc m s k hlt)
      obtain ⟨c, hc⟩ : ∃ c, s[k] = c := ⟨_, rfl⟩
      rw [hc] at hN
      have hcu := u8_le c
      by_cases hmk : c = m ∨ c = 92
      · have hE : Hid (([m] ++ escL m (s.data.toList.take k)) ++ [UInt8.ofNat (92 : Int).toNat] ++ [c] = [m] ++ escL m (s.data.toList.take (k + 1))) := Lib.hid (by
          rw [hN.out, escB, if_pos hmk]; simp)
        have hb : ((c.toNat : Int) == (m.toNat : Int)) = true ∨ (((c.toNat : Int) == (m.toNat : Int)) = false ∧ ((c.toNat : Int) == 92) = true) := by
          by_cases h' : c = m
          · left; rw [beq_iff_eq, h']
          · right
            refine ⟨?_, ?_⟩
            · rw [beq_eq_false_iff_ne]; exact fun e => h' (UInt8.toNat_inj.1 (by omega))
            · rw [beq_iff_eq]; exact (u8_int (n := 92) (by decide)).2 (hmk.resolve_left h')
        clear hmk hN
        rcases hb with hb | ⟨hb, hb2⟩
        all_goals
          go_wp2_with fail
          refine (sb_writeByte w.heap.size w.heap.size _ 92 _ hS.out (by omega) hBr (by omega) (by omega)).mono ?_; rintro e w3 ⟨rfl, h1, h2⟩
          have H1 := Lib.hid h1
          have HK1 := Lib.hid (hK.out.trans h2.1)
          have hB3 : w.heap.size ≤ w3.heap.size := HK1.out.size
          clear h1 h2
          go_wp2_with fail
          refine (sb_writeU8 w.heap.size w.heap.size _ c _ H1.out (by rw [List.length_append]; simp only [List.length_cons, List.length_nil]; omega) hB3).mono ?_; rintro e w4 ⟨rfl, h1, h2⟩
          have H2 := Lib.hid (h1.eq hE.out)
          have HK2 := Lib.hid (HK1.out.trans h2.1)
          clear h1 h2
          go_wp2_with fail
          go_roundg (s.size - (k + 1))
          case measure => go_light; omega
          case rel => go_light; exact ⟨k + 1, by omega, rfl, by go_num, H2, HK2⟩
      · have hbm : ((c.toNat : Int) == (m.toNat : Int)) = false := by
          rw [beq_eq_false_iff_ne]; exact fun e => hmk (.inl (UInt8.toNat_inj.1 (by omega)))
        have hb92 : ((c.toNat : Int) == 92) = false := by
          rw [beq_eq_false_iff_ne]; exact fun e => hmk (.inr ((u8_int (n := 92) (by decide)).1 e))
        by_cases hlow : c < 32
        · have hl32 : (c.toNat : Int) < 32 := (u8_lt32 c).1 hlow
          have hE : Hid (([m] ++ escL m (s.data.toList.take k)) ++ ctlB c.toNat = [m] ++ escL m (s.data.toList.take (k + 1))) := Lib.hid (by
            rw [hN.out, escB, if_neg hmk, if_pos hlow]; simp)
          clear hmk hlow hN
          go_wp2_with fail
          refine (sign_any c.toNat (by omega) w.heap.size w.heap.size _ _ hS (by omega) hBr).mono ?_; rintro e w3 ⟨rfl, h1, h2⟩
          have H2 := Lib.hid (h1.eq hE.out)
          have HK2 := Lib.hid (hK.out.trans h2.1)
          clear h1 h2
          go_wp2_with fail
          go_roundg (s.size - (k + 1))
          case measure => go_light; omega
          case rel => go_light; exact ⟨k + 1, by omega, rfl, by go_num, H2, HK2⟩
        · have hl32 : ¬ (c.toNat : Int) < 32 := fun h => hlow ((u8_lt32 c).2 h)
          have hE : Hid (([m] ++ escL m (s.data.toList.take k)) ++ [c] = [m] ++ escL m (s.data.toList.take (k + 1))) := Lib.hid (by
            rw [hN.out, escB, if_neg hmk, if_neg hlow]; simp)
          clear hmk hlow hN
          go_wp2_with fail
          refine (sb_writeU8 w.heap.size w.heap.size _ c _ hS.out (by omega) hBr).mono ?_; rintro e w3 ⟨rfl, h1, h2⟩
          have H2 := Lib.hid (h1.eq hE.out)
          have HK2 := Lib.hid (hK.out.trans h2.1)
          clear h1 h2
          go_wp2_with fail
          go_roundg (s.size - (k + 1))
          case measure => go_light; omega
          case rel => go_light; exact ⟨k + 1, by omega, rfl, by go_num, H2, HK2⟩
    · have hdk : decide ((k : Int) < (s.size : Int)) = false := by rw [decide_eq_false_iff_not]; omega
      have hE : Hid (([m] ++ escL m (s.data.toList.take k)) ++ [m] = T.data.toList) := Lib.hid (by
        rw [List.take_of_length_le (by rw [← hsz.out]; omega), hT.out, betL])
      go_wp2_with fail
      refine (sb_writeU8 w.heap.size w.heap.size _ m _ hS.out (by omega) hBr).mono ?_; rintro e w3 ⟨rfl, h1, h2⟩
      have H2 := Lib.hid (h1.eq hE.out)
      have HK2 := Lib.hid (hK.out.trans h2.1)
      have hB3 : w.heap.size ≤ w3.heap.size := HK2.out.size
      clear h1 h2
      go_wp2_with fail
      refine (sb_string w.heap.size w.heap.size _ _ H2.out hB3).mono ?_; rintro e w4 ⟨rfl, h1, h2⟩
      have HK3 := Lib.hid (HK2.out.trans h2.1)
      clear h1 h2
      go_wp2_with fail
      go_ret2
      exact ⟨rfl, HK3.out⟩
theorem quote_any (s T : ByteArray) (w : World) (hs : s.size ≤ 1000) (h : Hid (uright s.data.toList = true)) (hT : Hid (T.data.toList = betL 34 s.data.toList)) :
    Calls Tryz.prog 304 #[.string s] w fun e w' => e = .returned (.tuple #[.string T, .int .i64 0]) ∧ Below w.heap.size w w' := by
  go_enter Tryz.func304, Tryz.ntmps304
  go_wp2_with fail
  refine (between_any s 34 T _ hs h hT).mono ?_; rintro e w1 ⟨rfl, hb⟩
  have HB := Lib.hid hb
  clear hb
  go_wp2_with fail
  go_ret2
  exact ⟨rfl, HB.out⟩
end Go.Proofs.YtjelneeeijjpiaaGreatDoor.Tx
end
section
set_option maxRecDepth 100000
namespace Go.Proofs.YtjelneeeijjpiaaGreatDoor.Tx
open Go.RowKit Go.Proofs.Lw Go.Proofs.Le
def kpos (c : Nat) : Nat := if c = 8 then 0 else if c = 12 then 1 else if c = 10 then 2 else if c = 13 then 3 else if c = 9 then 4 else 5
abbrev meanS : ByteArray := ⟨#[8, 12, 10, 13, 9]⟩
set_option maxRecDepth 100000 in
theorem mean_key : ∀ j : Fin 5, (meanS[j.1]'j.2).toNat = [8, 12, 10, 13, 9].getD j.1 0 := by decide
theorem kpos_lt (c : Nat) (j : Nat) (hj : j < 5) (h : j < kpos c) : (((meanS[j]'hj).toNat : Int) != (c : Int)) = true := by
  rw [bne_iff_ne, mean_key ⟨j, hj⟩]
  unfold kpos at h
  have : j = 0 ∨ j = 1 ∨ j = 2 ∨ j = 3 ∨ j = 4 := by omega
  rcases this with rfl | rfl | rfl | rfl | rfl
  all_goals (simp only [List.getD_cons_zero, List.getD_cons_succ]; revert h; (repeat' split) <;> omega)
theorem kpos_at (c : Nat) (j : Nat) (hj : j < 5) (h : j = kpos c) : (((meanS[j]'hj).toNat : Int) != (c : Int)) = false := by
  rw [bne_eq_false_iff_eq, mean_key ⟨j, hj⟩]
  unfold kpos at h
  have : j = 0 ∨ j = 1 ∨ j = 2 ∨ j = 3 ∨ j = 4 := by omega
  rcases this with rfl | rfl | rfl | rfl | rfl
  all_goals (simp only [List.getD_cons_zero, List.getD_cons_succ]; revert h; (repeat' split) <;> omega)
theorem kpos_le (c : Nat) : kpos c ≤ 5 := by unfold kpos; (repeat' split) <;> omega
theorem conv1 (W : World) (a : Int) : (convert 29 9 (.slice (some ⟨W.heap.size, 0, none⟩) 1 1)).run Tryz.prog (W.alloc (.cells #[.int .u8 a] 5)) = .ok (.string (strOfNums [a])) (W.alloc (.cells #[.int .u8 a] 5)) := by
  have := conv_new W [a] 1 rfl
  simpa using this
theorem conv2 (W : World) (a b : Int) : (convert 29 9 (.slice (some ⟨W.heap.size, 0, none⟩) 2 2)).run Tryz.prog (W.alloc (.cells #[.int .u8 a, .int .u8 b] 5)) = .ok (.string (strOfNums [a, b])) (W.alloc (.cells #[.int .u8 a, .int .u8 b] 5)) := by
  have := conv_new W [a, b] 2 rfl
  simpa using this
theorem conv6 (W : World) (a b c d e f : Int) : (convert 29 9 (.slice (some ⟨W.heap.size, 0, none⟩) 6 6)).run Tryz.prog (W.alloc (.cells #[.int .u8 a, .int .u8 b, .int .u8 c, .int .u8 d, .int .u8 e, .int .u8 f] 5)) = .ok (.string (strOfNums [a, b, c, d, e, f])) (W.alloc (.cells #[.int .u8 a, .int .u8 b, .int .u8 c, .int .u8 d, .int .u8 e, .int .u8 f] 5)) := by
  have := conv_new W [a, b, c, d, e, f] 6 rfl
  simpa using this
theorem conv_drew (W : World) (xs : List Int) (n : Nat) (hn : xs.length = n) :
    (convert 29 9 (.slice (some ⟨W.heap.size, 0, none⟩) n n)).run Tryz.prog (W.alloc (.cells (xs.map (Value.int .u8)).toArray 5)).drew = .ok (.string (strOfNums xs)) (W.alloc (.cells (xs.map (Value.int .u8)).toArray 5)).drew := by
  refine run_convert_bytes_arg _ 29 5 Tryz.underlying29 Tryz.underlying5 W.heap.size 0 n n xs hn ?_ 9 Tryz.underlying9
  intro i hi
  have hi' : i < xs.length := by omega
  show (W.alloc (.cells (xs.map (Value.int .u8)).toArray 5)).cell? _ = _
  rw [World.cell?_alloc_new]
  simp [List.getD, List.getElem?_eq_getElem hi']
theorem conv6d (W : World) (a b c d e f : Int) : (convert 29 9 (.slice (some ⟨W.heap.size, 0, none⟩) 6 6)).run Tryz.prog (W.alloc (.cells #[.int .u8 a, .int .u8 b, .int .u8 c, .int .u8 d, .int .u8 e, .int .u8 f] 5)).drew = .ok (.string (strOfNums [a, b, c, d, e, f])) (W.alloc (.cells #[.int .u8 a, .int .u8 b, .int .u8 c, .int .u8 d, .int .u8 e, .int .u8 f] 5)).drew := by
  have := conv_drew W [a, b, c, d, e, f] 6 rfl
  simpa using this
theorem size1 (a : Int) : (strOfNums [a]).size = 1 := rfl
theorem size2 (a b : Int) : (strOfNums [a, b]).size = 2 := rfl
theorem size6 (a b c d e f : Int) : (strOfNums [a, b, c, d, e, f]).size = 6 := rfl
theorem str1 (c : UInt8) : (strOfNums [(c.toNat : Int)]).data.toList = [c] := by rw [strOfNums_data]; simp
theorem of_list {A : ByteArray} {l : List UInt8} (h : A.data.toList = l) : A = (⟨l.toArray⟩ : ByteArray) := by
  apply ByteArray.ext; apply Array.toList_inj.1; exact h
theorem strOne (c : UInt8) : strOfNums [(c.toNat : Int)] = (⟨[c].toArray⟩ : ByteArray) := of_list (str1 c)
theorem str92 (c : UInt8) : strOfNums [92, (c.toNat : Int)] = (⟨[92, c].toArray⟩ : ByteArray) := of_list (by rw [strOfNums_data]; simp)
abbrev signS : ByteArray := ⟨#[98, 102, 110, 114, 116]⟩
set_option maxRecDepth 100000 in
theorem sign_key : ∀ j : Fin 5, (signS[j.1]'j.2) = [98, 102, 110, 114, 116].getD j.1 0 := by decide
theorem sign_list (c : UInt8) (j : Nat) (hj : j < 5) (h : kpos c.toNat = j) : strOfNums [92, ((signS[j]'hj).toNat : Int)] = (⟨(if c < 32 then ctlB c.toNat else [c]).toArray⟩ : ByteArray) := by
  have hc : c.toNat = 8 ∨ c.toNat = 12 ∨ c.toNat = 10 ∨ c.toNat = 13 ∨ c.toNat = 9 := by
    unfold kpos at h
    revert h; (repeat' split) <;> omega
  have hlow : c < 32 := (u8_lt32 c).2 (by omega)
  rw [if_pos hlow]
  refine of_list ?_
  rw [strOfNums_data, sign_key ⟨j, hj⟩]
  show List.map (fun n => UInt8.ofNat n.toNat) [92, (((([98, 102, 110, 114, 116] : List UInt8).getD j 0).toNat : Nat) : Int)] = ctlB c.toNat
  rw [← h]
  rcases hc with hc | hc | hc | hc | hc
  all_goals (rw [hc]; decide)
set_option maxRecDepth 100000 in
theorem dig_key : ∀ j : Fin 16, (hexS[j.1]'j.2) = hexd j.1 := by decide
theorem ctl_list (c : UInt8) (hi lo : Nat) (h1 : hi < 16) (h2 : lo < 16) (e1 : hi = c.toNat / 16) (e2 : lo = c.toNat % 16) (h5 : kpos c.toNat = 5) : strOfNums [92, 117, 48, 48, ((hexS[hi]'h1).toNat : Int), ((hexS[lo]'h2).toNat : Int)] = (⟨(ctlB c.toNat).toArray⟩ : ByteArray) := by
  refine of_list ?_
  rw [strOfNums_data, dig_key ⟨hi, h1⟩, dig_key ⟨lo, h2⟩]
  have hc : ¬ (c.toNat = 8) ∧ ¬ (c.toNat = 12) ∧ ¬ (c.toNat = 10) ∧ ¬ (c.toNat = 13) ∧ ¬ (c.toNat = 9) := by
    unfold kpos at h5
    revert h5; (repeat' split) <;> omega
  rw [ctlB, if_neg hc.1, if_neg hc.2.1, if_neg hc.2.2.1, if_neg hc.2.2.2.1, if_neg hc.2.2.2.2]
  show List.map (fun n => UInt8.ofNat n.toNat) [92, 117, 48, 48, (((hexd hi).toNat : Nat) : Int), (((hexd lo).toNat : Nat) : Int)] = _
  rw [e1, e2]
  simp
theorem next_S {m c : UInt8} {S X : ByteArray} {l : List UInt8} {k : Nat} (hS : Hid (S.data.toList = [m] ++ escL m (l.take k))) (hN : Hid (escL m (l.take (k + 1)) = escL m (l.take k) ++ escB m c)) (hE : Hid (X = (⟨(escB m c).toArray⟩ : ByteArray))) :
    Hid ((S ++ X).data.toList = [m] ++ escL m (l.take (k + 1))) := Lib.hid (by
  rw [hN.out, hE.out, ← List.append_assoc, ← hS.out]; simp)
theorem wrap_u8 (n : Nat) (h : n < 256) : IntKind.u8.wrap (n : Int) = (n : Int) := by rw [IntKind.wrap_u8]; omega
theorem quot16 (c : UInt8) : ∃ hi lo : Nat, (c.toNat : Int) / 16 = (hi : Int) ∧ (c.toNat : Int) % 16 = (lo : Int) ∧ hi < 16 ∧ lo < 16 ∧ Hid (hi = c.toNat / 16 ∧ lo = c.toNat % 16) := by
  have := c.toNat_lt
  exact ⟨c.toNat / 16, c.toNat % 16, by omega, by omega, by omega, by omega, Lib.hid ⟨rfl, rfl⟩⟩
set_option maxRecDepth 100000 in
set_option maxHeartbeats 2000000 in
theorem rbetween_any (s : ByteArray) (m : UInt8) (T : ByteArray) (w : World) (hs : s.size ≤ 1000) (hT : Hid (T.data.toList = betL m s.data.toList)) :
    Calls Tryz.prog 10 #[.string s, .int .u8 (m.toNat : Nat)] w fun e w' => e = .returned (.string T) ∧ Below w.heap.size w w' := by
  have hsz : Hid (s.size = s.data.toList.length) := Lib.hid (Lib.size_eq s)
  have hc1 := conv1
  have hc2 := conv2
  have hc6 := conv6
  have hc6d := conv6d
  have z1 := size1
  have z2 := size2
  have z6 := size6
  go_enter Tryz.func10, Tryz.ntmps10
  go_wp2_with fail
  go_loopg [5, 6] s.size (fun g v i wr => ∃ (k : Nat) (S : ByteArray), k ≤ s.size ∧ g = s.size - k ∧ v = .string S ∧ i = .int .i64 k ∧ S.size ≤ 6 * k + 1 ∧ Hid (S.data.toList = [m] ++ escL m (s.data.toList.take k)) ∧ Hid (Below w.heap.size w wr))
  case atStart => exact ⟨0, _, Nat.zero_le _, rfl, rfl, rfl, by rw [size1]; omega, Lib.hid (by simp [escL, str1]), Lib.hid ((Below.refl _ w).alloc (Nat.le_refl _) _)⟩
  case round =>
    obtain ⟨k, S, hk, rfl, rfl, rfl, hSz, hS, hK⟩ := hrel
    have hBr : w.heap.size ≤ wr.heap.size := hK.out.size
    by_cases hlt : k < s.size
    · have hdk : decide ((k : Int) < (s.size : Int)) = true := by rw [decide_eq_true_eq]; omega
      have hN := Lib.hid (escL_snoc m s k hlt)
      obtain ⟨c, hc⟩ : ∃ c, s[k] = c := ⟨_, rfl⟩
      rw [hc] at hN
      have hcu := u8_le c
      have hKl := kpos_le c.toNat
      obtain ⟨K, hKK⟩ : ∃ K, kpos c.toNat = K := ⟨_, rfl⟩
      rw [hKK] at hKl
      have HKK := Lib.hid hKK
      clear hKK
      have w1 : ¬ 9223372036854775807 < S.size + 1 := by omega
      have w2 : ¬ 9223372036854775807 < S.size + 2 := by omega
      have w6 : ¬ 9223372036854775807 < S.size + 6 := by omega
      obtain ⟨hi, lo, q1, q2, hhi, hlo, hdv⟩ := quot16 c
      have q3 : (c.toNat : Int).tdiv 16 = (hi : Int) := by rw [Int.tdiv_eq_ediv_of_nonneg (by omega)]; exact q1
      have q4 : (c.toNat : Int).tmod 16 = (lo : Int) := by rw [Int.tmod_eq_emod_of_nonneg (by omega)]; exact q2
      have q5 : (hi : Int) < 16 := by omega
      have q6 : (lo : Int) < 16 := by omega
      have q7 := wrap_u8 hi (by omega)
      have q8 := wrap_u8 lo (by omega)
      go_wp2_with fail
      go_loopg [10] (K + 1) (fun g v wx => ∃ j : Nat, j ≤ K ∧ g = K + 1 - j ∧ v = .int .i64 j ∧ wx = wr)
      case atStart => exact ⟨0, Nat.zero_le _, rfl, rfl, rfl⟩
      case round =>
        obtain ⟨j, hj, rfl, rfl, rfl⟩ := hrel
        by_cases hjK : j < K
        · have hj5 : decide ((j : Int) < 5) = true := by rw [decide_eq_true_eq]; omega
          have hne := kpos_lt c.toNat j (by omega) (by rw [HKK.out]; exact hjK)
          go_wp2_with fail
          go_roundg (K + 1 - (j + 1))
          case measure => go_light; omega
          case rel => go_light; exact ⟨j + 1, by omega, rfl, by go_num, rfl⟩
        · obtain rfl : j = K := by omega
          clear hjK hj
          have hKd := HKK.out
          by_cases hmk : c = m ∨ c = 92
          · have hE : Hid (strOfNums [92, (c.toNat : Int)] = (⟨(escB m c).toArray⟩ : ByteArray)) := Lib.hid (by rw [escB, if_pos hmk]; exact str92 c)
            have hb : ((c.toNat : Int) == (m.toNat : Int)) = true ∨ (((c.toNat : Int) == (m.toNat : Int)) = false ∧ ((c.toNat : Int) == 92) = true) := by
              by_cases h' : c = m
              · left; rw [beq_iff_eq, h']
              · right
                refine ⟨?_, ?_⟩
                · rw [beq_eq_false_iff_ne]; exact fun e => h' (UInt8.toNat_inj.1 (by omega))
                · rw [beq_iff_eq]; exact (u8_int (n := 92) (by decide)).2 (hmk.resolve_left h')
            clear hmk
            by_cases h5 : j < 5
            · have hj5 : decide ((j : Int) < 5) = true := by rw [decide_eq_true_eq]; omega
              have hne := kpos_at c.toNat j h5 hKd.symm
              clear hKd
              rcases hb with hb | ⟨hb, hb2⟩
              all_goals
                go_wp2_with fail
                go_roundg (s.size - (k + 1))
                case measure => go_light; omega
                case rel => go_light; exact ⟨k + 1, _, by omega, rfl, rfl, by go_num, by rw [ByteArray.size_append, size2]; omega, next_S hS hN hE, Lib.hid (hK.out.alloc hBr _)⟩
            · have hj5 : decide ((j : Int) < 5) = false := by rw [decide_eq_false_iff_not]; omega
              clear hKd
              rcases hb with hb | ⟨hb, hb2⟩
              all_goals
                go_wp2_with fail
                go_roundg (s.size - (k + 1))
                case measure => go_light; omega
                case rel => go_light; exact ⟨k + 1, _, by omega, rfl, rfl, by go_num, by rw [ByteArray.size_append, size2]; omega, next_S hS hN hE, Lib.hid (hK.out.alloc hBr _)⟩
          · have hbm : ((c.toNat : Int) == (m.toNat : Int)) = false := by
              rw [beq_eq_false_iff_ne]; exact fun e => hmk (.inl (UInt8.toNat_inj.1 (by omega)))
            have hb92 : ((c.toNat : Int) == 92) = false := by
              rw [beq_eq_false_iff_ne]; exact fun e => hmk (.inr ((u8_int (n := 92) (by decide)).1 e))
            by_cases h5 : j < 5
            · have hj5 : decide ((j : Int) < 5) = true := by rw [decide_eq_true_eq]; omega
              have hne := kpos_at c.toNat j h5 hKd.symm
              have hE : Hid (strOfNums [92, ((signS[j]'h5).toNat : Int)] = (⟨(escB m c).toArray⟩ : ByteArray)) := Lib.hid (by rw [escB, if_neg hmk]; exact sign_list c j h5 hKd)
              clear hKd hmk
              go_wp2_with fail
              go_roundg (s.size - (k + 1))
              case measure => go_light; omega
              case rel => go_light; exact ⟨k + 1, _, by omega, rfl, rfl, by go_num, by rw [ByteArray.size_append, size2]; omega, next_S hS hN hE, Lib.hid (hK.out.alloc hBr _)⟩
            · have hj5 : decide ((j : Int) < 5) = false := by rw [decide_eq_false_iff_not]; omega
              by_cases hlow : c < 32
              · have hl32 : (c.toNat : Int) < 32 := (u8_lt32 c).1 hlow
                have hE : Hid (strOfNums [92, 117, 48, 48, ((hexS[hi]'hhi).toNat : Int), ((hexS[lo]'hlo).toNat : Int)] = (⟨(escB m c).toArray⟩ : ByteArray)) := Lib.hid (by
                  rw [escB, if_neg hmk, if_pos hlow]; exact ctl_list c hi lo hhi hlo hdv.out.1 hdv.out.2 (by omega))
                clear hKd hmk hlow
                go_wp2_with fail
                go_region_with (fail)
                all_goals
                  go_wp2_with fail
                  go_roundg (s.size - (k + 1))
                  case measure => go_light; omega
                  case rel => go_light; exact ⟨k + 1, _, by omega, rfl, rfl, by go_num, by rw [ByteArray.size_append, size6]; omega, next_S hS hN hE, Lib.hid ((hK.out.alloc hBr _).drew)⟩
              · have hl32 : ¬ (c.toNat : Int) < 32 := fun h => hlow ((u8_lt32 c).2 h)
                have hE : Hid (strOfNums [(c.toNat : Int)] = (⟨(escB m c).toArray⟩ : ByteArray)) := Lib.hid (by
                  have e5 : kpos c.toNat = 5 := by omega
                  rw [escB, if_neg hmk, if_neg hlow]; exact strOne c)
                clear hKd hmk hlow
                go_wp2_with fail
                go_roundg (s.size - (k + 1))
                case measure => go_light; omega
                case rel => go_light; exact ⟨k + 1, _, by omega, rfl, rfl, by go_num, by rw [ByteArray.size_append, size1]; omega, next_S hS hN hE, Lib.hid (hK.out.alloc hBr _)⟩
    · have hdk : decide ((k : Int) < (s.size : Int)) = false := by rw [decide_eq_false_iff_not]; omega
      have w1 : ¬ 9223372036854775807 < S.size + 1 := by omega
      have hE : Hid (S ++ strOfNums [(m.toNat : Int)] = T) := Lib.hid (by
        apply ByteArray.ext; apply Array.toList_inj.1
        rw [hT.out, betL]
        have := hS.out
        rw [List.take_of_length_le (by rw [← hsz.out]; omega)] at this
        rw [← this, ← str1 m]; simp)
      go_wp2_with fail
      go_ret
      exact ⟨ret_str hE.out, hK.out.alloc hBr _⟩
theorem rquote_any (s T : ByteArray) (w : World) (hs : s.size ≤ 1000) (hT : Hid (T.data.toList = betL 34 s.data.toList)) :
    Calls Tryz.prog 6 #[.string s] w fun e w' => e = .returned (.string T) ∧ Below w.heap.size w w' := by
  go_enter Tryz.func6, Tryz.ntmps6
  go_wp2_with fail
  refine (rbetween_any s 34 T _ hs hT).mono ?_; rintro e w1 ⟨rfl, hb⟩
  have HB := Lib.hid hb
  clear hb
  go_wp2_with fail
  go_ret
  exact ⟨rfl, HB.out⟩
end Go.Proofs.YtjelneeeijjpiaaGreatDoor.Tx
end
section
namespace Go.Proofs.YtjelneeeijjpiaaGreatDoor
open Go.RowKit Go.Proofs.Le Go.Proofs.Lw
theorem at_of (s : ByteArray) (k : Nat) (hk : k < s.size) (c : UInt8) (h : s.data.toList[k]? = some c) : ((s[k]'hk).toNat : Int) = ((c.toNat : Nat) : Int) := by
  rw [List.getElem?_eq_getElem (by rw [← Lib.size_eq]; exact hk)] at h
  injection h with h
  rw [← h]; rfl
theorem last_snoc (l : List UInt8) (c : UInt8) : (l ++ [c]).getLast? = some c := by simp
theorem eq_bytes {A B : ByteArray} (h : A.data.toList = B.data.toList) : A = B := by
  cases A; cases B; simp at h; exact congrArg _ (by cases h; rfl)
abbrev brk (q : ByteArray) : ByteArray := (⟨#[91]⟩ ++ q) ++ ⟨#[93]⟩
theorem brk_list (q : ByteArray) : (brk q).data.toList = 91 :: (q.data.toList ++ [93]) := by
  simp [brk]
theorem brk_size (q : ByteArray) : (brk q).size = q.size + 2 := by
  rw [Lib.size_eq, brk_list, Lib.size_eq]; simp
theorem ms_str (T : ByteArray) (l r : List UInt8) (ys : List (Int × Int)) (h : Mx l) : ∀ k, T.data.toList.drop k = l ++ r → Ms T (k + l.length) false ys → Ms T k true ys := by
  induction h with
  | mark =>
    intro k hd hm
    obtain ⟨hk, hb, -⟩ := drop_at T k 34 r hd
    exact .outT k ys hk (by rw [hb]; rfl) hm
  | skip c l _ ih =>
    intro k hd hm
    obtain ⟨hk, hb, hd2⟩ := drop_at T k 92 (c :: (l ++ r)) hd
    obtain ⟨hk2, hb2, hd3⟩ := drop_at T (k + 1) c (l ++ r) hd2
    refine .escT k ys hk (by rw [hb]; rfl) (ih (k + 2) hd3 ?_)
    have : k + (92 :: c :: l).length = k + 2 + l.length := by simp; omega
    rw [← this]; exact hm
  | byte c l h34 h92 _ ih =>
    intro k hd hm
    obtain ⟨hk, hb, hd2⟩ := drop_at T k c (l ++ r) hd
    refine .skipT k ys hk (by rw [hb]; exact fun e => h34 (u8_eq (n := 34) e)) (by rw [hb]; exact fun e => h92 (u8_eq (n := 92) e)) (ih (k + 1) hd2 ?_)
    have : k + (c :: l).length = k + 1 + l.length := by simp; omega
    rw [← this]; exact hm
structure Str (q : ByteArray) : Prop where
  sc : ScT (brk q) (q.size + 2) (q.size + 1) 34
  doc : Doc (brk q) q (q.size + 2) (q.size + 1)
  ms : Ms (brk q) 0 false [((0 : Int), (91 : Int)), (((q.size + 1 : Nat) : Int), (93 : Int))]
  nl : (brk q).data.toList.contains 10 = false
  pos : 0 < q.size
  mark : ((q[0]'pos).toNat : Int) = 34
theorem str_of (q : ByteArray) (hok : OkL q.data.toList) (hs : q.size < 1000) : Str q := by
  obtain ⟨x, hx, hS⟩ := str_parts _ hok
  obtain ⟨y, hy⟩ := sx_last hS
  have hq : q.size = x.length + 1 := by rw [Lib.size_eq, hx]; simp
  have hl := brk_list q
  have hsz := brk_size q
  have hpos : 0 < q.size := by omega
  have hd1 : (brk q).data.toList.drop 1 = 34 :: (x ++ [93]) := by rw [hl, hx]; simp
  have hd2 : (brk q).data.toList.drop 2 = x ++ [93] := by rw [hl, hx]; simp
  have k0 : 0 < (brk q).size := by omega
  have k1 : 1 < (brk q).size := by omega
  have kL : q.size + 1 < (brk q).size := by omega
  have a0 := at_of (brk q) 0 k0 91 (by rw [hl]; rfl)
  have a1 := at_of (brk q) 1 k1 34 (by rw [hl, hx]; rfl)
  have aL := at_of (brk q) (q.size + 1) kL 93 (by rw [hl, List.getElem?_cons_succ, List.getElem?_append_right (by rw [Lib.size_eq]; omega), Lib.size_eq]; simp)
  have hge : ∀ b ∈ q.data.toList, 32 ≤ b.toNat := by
    rw [hx]; intro b hb
    rcases List.mem_cons.1 hb with rfl | hb
    · decide
    · exact sx_ge hS b hb
  refine ⟨⟨hsz, rfl, by omega, by omega, k0, k1, kL, a0, a1, aL, by decide, by decide, lfS_s _ _ x [93] (by omega) hd1 hS (by omega)⟩,
    ⟨hsz, rfl, by omega, by omega, Bare.of _ ?_ ?_, Bare.of _ ?_ ?_, ?_, rfl, fun _ => a0⟩, ?_, ?_, hpos, ?_⟩
  · intro b hb; rw [hl] at hb; first | (simp at hb; subst hb; decide) | (cases hb; decide)
  · intro b hb; rw [hl, show (91 : UInt8) :: (q.data.toList ++ [93]) = (91 :: q.data.toList) ++ [93] from rfl, last_snoc] at hb; injection hb with hb; subst hb; decide
  · intro b hb; rw [hx] at hb; first | (simp at hb; subst hb; decide) | (cases hb; decide)
  · intro b hb; rw [hx, hy, show (34 : UInt8) :: (y ++ [34]) = (34 :: y) ++ [34] from rfl, last_snoc] at hb; injection hb with hb; subst hb; decide
  · refine eq_bytes ?_
    rw [Lib.extract_data, hl, Lib.size_eq]
    simp
  · refine .yldF 0 _ 91 k0 a0 (.inl rfl) (.inF 1 _ k1 a1 (ms_str _ x [93] _ (mx_of_sx hS) 2 hd2 ?_))
    rw [show 2 + x.length = q.size + 1 by omega]
    exact .yldF (q.size + 1) _ 93 kL aL (.inr rfl) (.nil _ _ (by omega))
  · rw [hl, List.contains_eq_mem]
    simp only [decide_eq_false_iff_not, List.mem_cons, List.mem_append, List.mem_singleton, not_or]
    refine ⟨by decide, fun h => ?_, by decide, by simp⟩
    have := hge 10 h
    exact absurd this (by decide)
  · exact at_of q 0 hpos 34 (by rw [hx]; rfl)
end Go.Proofs.YtjelneeeijjpiaaGreatDoor
end
section
namespace Go.Proofs.YtjelneeeijjpiaaGreatDoor
open Go.RowKit
open Go.Proofs.Le Go.Proofs.Lw
abbrev v5 : ByteArray := ⟨#[53]⟩
theorem n5_sc : ScT n5 3 2 53 := ⟨rfl, rfl, by decide, by decide, by decide, by decide, by decide, rfl, rfl, rfl, by decide, by decide, lfS_5⟩
theorem n5_doc : Doc n5 v5 3 2 := ⟨rfl, rfl, by decide, by decide, Bare.of _ (by intro b hb; cases hb; decide) (by intro b hb; cases hb; decide), Bare.of _ (by intro b hb; cases hb; decide) (by intro b hb; cases hb; decide), by first | rfl | decide, rfl, fun _ => rfl⟩
theorem n5_ms : Ms n5 0 false [((0 : Int), (91 : Int)), (((2 : Nat) : Int), (93 : Int))] :=
  .yldF 0 _ 91 (by decide) rfl (.inl rfl) (.skipF 1 _ (by decide) (by decide) (.yldF 2 _ 93 (by decide) rfl (.inr rfl) (.nil _ _ (by decide))))
theorem n5_nl : n5.data.toList.contains 10 = false := by decide
theorem ok5 : ((⟨#[111, 107, 32, 49]⟩ ++ (⟨#[10]⟩ ++ v5) : ByteArray)) = ⟨#[111, 107, 32, 49, 10, 53]⟩ := by first | rfl | decide
def AwP (w : World) (e : Ending) (w' : World) : Prop := e = .returned (.bool true) ∧ Below w.heap.size w w'
set_option maxRecDepth 100000 in
set_option maxHeartbeats 2000000 in
theorem awake_any  (w : World) (hTb : Tab w) : Calls Tryz.prog 4 #[] w fun e w' => AwP w e w' := by
  have hR := fun (ln lc : Nat) (W : World) (h : Tab W) (ll : ln < W.heap.size) (hl0 : W.cell? ⟨ln, 0, none⟩ = some (.string ⟨#[118, 97, 108, 117, 101, 115, 32, 48, 32, 57, 32, 36, 91, 48, 93]⟩)) => run_9 n5 3 2 53 n5_sc n5_nl 3 (by decide) (by decide) n5_ms ln lc v5 n5_doc 2 (by decide) rfl (.inr (.inr ⟨.inr (by decide), rfl⟩)) (by decide) v5 (by decide) W h ll hl0 (fun p W h W' hW => leaf_n p 3 2 n5 v5 n5_doc (by decide) 53 rfl (.inr (by decide)) W' (h.below hW))
  simp only [ok5, show ((3 : Nat) : Int) = 3 from rfl] at hR
  go_enter Tryz.func4, Tryz.ntmps4
  go_wp2_with fail
  refine (hR w.heap.size 1 _ (hTb.below (by (repeat' (first | refine Below.setCell ?_ (by first | (simp; done) | (simp; omega) | omega | (simp [World.setCell]; omega)) _ | refine Below.alloc ?_ (by first | (simp; done) | (simp; omega) | omega | (simp [World.setCell]; omega)) _ | refine below_drewN' ?_ _ | refine Below.drew ?_ | exact Hid.out (by assumption) | exact Below.refl _ _)))) (by simp) (by simp [go_sem])).mono ?_; rintro e w1 ⟨g, cc, rfl, ⟨gl, gc⟩, hb⟩
  clear hR
  go_wp2_with fail
  go_ret
  exact ⟨rfl, ((Below.refl _ _).alloc (Nat.le_refl _) _).trans (hb.mono (by simp))⟩
end Go.Proofs.YtjelneeeijjpiaaGreatDoor
end
