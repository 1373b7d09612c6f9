/- TopText: walks and plain laws, part 2: lemmas on what the functions that the law comes to compute. -/
import Derived.Test.YtjelneeeijjpiaaGreatDoorG01
import Derived.Deep.LoopGhost
import Derived.Deep.Light
import Derived.Lib.Strings
set_option linter.unusedVariables false
set_option linter.unusedSimpArgs false
section
namespace Go.Proofs.Lw
theorem bOf {n : Int} (h0 : 0 ≤ n) (h1 : n ≤ 255) : ((UInt8.ofNat n.toNat).toNat : Int) = n := by
  rw [UInt8.toNat_ofNat', Nat.mod_eq_of_lt (by omega)]; omega
theorem uscal_put (c : Int) (B : List UInt8) (h : putL c ≠ []) : uscal (putL c ++ B) = (c, (putL c).length) := by
  unfold putL putN at *
  by_cases h0 : c < 0 ∨ 1114111 < c ∨ 55296 ≤ c ∧ c ≤ 57343
  · rw [if_pos h0] at h; exact absurd rfl h
  · rw [if_neg h0] at h ⊢
    by_cases h1 : c < 128
    · rw [if_pos h1]
      have e := bOf (n := c) (by omega) (by omega)
      simp only [List.map_cons, List.map_nil, List.cons_append, List.nil_append, List.length_cons, List.length_nil]
      rw [U_0 _ _ (by omega), e]
    · rw [if_neg h1]
      by_cases h2 : c < 2048
      · rw [if_pos h2]
        have e0 := bOf (n := 192 + c / 64) (by omega) (by omega)
        have e1 := bOf (n := 128 + c % 64) (by omega) (by omega)
        simp only [List.map_cons, List.map_nil, List.cons_append, List.nil_append, List.length_cons, List.length_nil]
        rw [U_2 _ _ _ (by omega), if_pos (by omega), e0, e1]
        exact Prod.ext (by show (_ : Int) = _; omega) rfl
      · rw [if_neg h2]
        by_cases h3 : c < 65536
        · rw [if_pos h3]
          have e0 := bOf (n := 224 + c / 4096) (by omega) (by omega)
          have e1 := bOf (n := 128 + c / 64 % 64) (by omega) (by omega)
          have e2 := bOf (n := 128 + c % 64) (by omega) (by omega)
          simp only [List.map_cons, List.map_nil, List.cons_append, List.nil_append, List.length_cons, List.length_nil]
          rw [U_3 _ _ _ _ (by omega), if_pos (by unfold low3 high3; rw [e0, e1, e2]; (repeat' split) <;> omega), e0, e1, e2]
          exact Prod.ext (by show (_ : Int) = _; omega) rfl
        · rw [if_neg h3]
          have e0 := bOf (n := 240 + c / 262144) (by omega) (by omega)
          have e1 := bOf (n := 128 + c / 4096 % 64) (by omega) (by omega)
          have e2 := bOf (n := 128 + c / 64 % 64) (by omega) (by omega)
          have e3 := bOf (n := 128 + c % 64) (by omega) (by omega)
          simp only [List.map_cons, List.map_nil, List.cons_append, List.nil_append, List.length_cons, List.length_nil]
          rw [U_4 _ _ _ _ _ (by omega), if_pos (by unfold low4 high4; rw [e0, e1, e2, e3]; (repeat' split) <;> omega), e0, e1, e2, e3]
          exact Prod.ext (by show (_ : Int) = _; omega) rfl
theorem putL_none (c : Int) : putL c = [] ↔ c < 0 ∨ 1114111 < c ∨ 55296 ≤ c ∧ c ≤ 57343 := by
  unfold putL putN
  (repeat' split) <;> simp <;> omega
theorem uscalS_run (l : List UInt8) (st c : Int) (i : Nat) : ((uscalS st c i l).2 = 0 ∧ ∀ j, 0 < j → j ≤ l.length → urun st (l.take j) ≠ 0) ∨
    ∃ n, 0 < n ∧ n ≤ l.length ∧ (uscalS st c i l).2 = i + n ∧ urun st (l.take n) = 0 ∧ ∀ j, 0 < j → j < n → urun st (l.take j) ≠ 0 := by
  induction l generalizing st c i with
  | nil => exact .inl ⟨rfl, fun j h0 h1 => by simp at h1; omega⟩
  | cons b l ih =>
    rw [uscalS_cons]
    by_cases h8 : ustep st b.toNat = 8
    · rw [if_pos h8]
      refine .inl ⟨rfl, fun j h0 h1 => ?_⟩
      obtain ⟨k, rfl⟩ : ∃ k, j = k + 1 := ⟨j - 1, by omega⟩
      rw [List.take_succ_cons, urun, h8, urun_dead]; decide
    · rw [if_neg h8]
      by_cases hz : ustep st b.toNat = 0
      · rw [if_pos hz]
        exact .inr ⟨1, by omega, by simp, rfl, by simp [urun, hz], fun j h0 h1 => by omega⟩
      · rw [if_neg hz]
        rcases ih (ustep st b.toNat) (if 0 < i then c * 64 + (b.toNat : Int) % 64 else ufirstC b.toNat) (i + 1) with ⟨h1, h2⟩ | ⟨n, h1, h2, h3, h4, h5⟩
        · refine .inl ⟨h1, fun j h0 hj => ?_⟩
          obtain ⟨k, rfl⟩ : ∃ k, j = k + 1 := ⟨j - 1, by omega⟩
          rw [List.take_succ_cons, urun]
          by_cases hk : k = 0
          · subst hk; simpa [urun] using hz
          · exact h2 k (by omega) (by simp at hj; omega)
        · refine .inr ⟨n + 1, by omega, by simp; omega, by rw [h3]; omega, by rw [List.take_succ_cons, urun]; exact h4, fun j h0 hj => ?_⟩
          obtain ⟨k, rfl⟩ : ∃ k, j = k + 1 := ⟨j - 1, by omega⟩
          rw [List.take_succ_cons, urun]
          by_cases hk : k = 0
          · subst hk; simpa [urun] using hz
          · exact h5 k (by omega) (by omega)
theorem uscal_none (l : List UInt8) (h : (uscal l).2 = 0) : ∀ j, 0 < j → j ≤ l.length → urun 0 (l.take j) ≠ 0 := by
  rcases uscalS_run l 0 0 0 with ⟨_, h2⟩ | ⟨n, h1, _, h3, _⟩
  · exact h2
  · unfold uscal at h; omega
theorem uscal_some (l : List UInt8) (h : (uscal l).2 ≠ 0) : (uscal l).2 ≤ l.length ∧ urun 0 (l.take (uscal l).2) = 0 ∧ ∀ j, 0 < j → j < (uscal l).2 → urun 0 (l.take j) ≠ 0 := by
  rcases uscalS_run l 0 0 0 with ⟨h1, _⟩ | ⟨n, h1, h2, h3, h4, h5⟩
  · exact absurd h1 h
  · have e : (uscal l).2 = n := by unfold uscal; omega
    rw [e]; exact ⟨h2, h4, h5⟩
theorem run_zero_lives (l : List UInt8) (st : Int) (h : urun st l = 0) : Lives st l := by
  induction l generalizing st with
  | nil => trivial
  | cons b l ih =>
    rw [urun] at h
    refine ⟨?_, ih _ h⟩
    intro h8
    rw [h8, urun_dead] at h
    exact absurd h (by decide)
end Go.Proofs.Lw
end
section
namespace Go.Proofs.Le
open Go.Proofs.Lw
def hexP (c : Int) : Int := if 48 ≤ c ∧ c ≤ 57 then c - 48 else if 97 ≤ c ∧ c ≤ 102 then c - 87 else if 65 ≤ c ∧ c ≤ 70 then c - 55 else -1
theorem hexP_bd (c : Int) : -1 ≤ hexP c ∧ hexP c ≤ 15 := by unfold hexP; repeat' split
                                                            all_goals omega
def unitA (n : Int) : List UInt8 → Int
  | [] => n
  | b :: l => if hexP b.toNat < 0 then -1 else unitA (n * 16 + hexP b.toNat) l
def unitP (l : List UInt8) : Int := if l.length < 4 then -1 else unitA 0 (l.take 4)
theorem unitA_bd (l : List UInt8) (n : Int) (h0 : 0 ≤ n) : unitA n l = -1 ∨ (0 ≤ unitA n l ∧ unitA n l < (n + 1) * 16 ^ l.length) := by
  induction l generalizing n with
  | nil => right; simp [unitA]; omega
  | cons b l ih =>
    unfold unitA
    have hb := hexP_bd b.toNat
    split
    · left; rfl
    · rcases ih (n * 16 + hexP b.toNat) (by omega) with h | ⟨h1, h2⟩
      · left; exact h
      · right
        refine ⟨h1, Int.lt_of_lt_of_le h2 ?_⟩
        have e : (n + 1) * 16 ^ (b :: l).length = ((n + 1) * 16) * 16 ^ l.length := by rw [List.length_cons, Int.pow_succ, Int.mul_assoc, Int.mul_comm (16 ^ l.length) 16]
        rw [e]
        exact Int.mul_le_mul_of_nonneg_right (by omega) (Int.pow_nonneg (by omega))
theorem unitP_bd (l : List UInt8) : -1 ≤ unitP l ∧ unitP l < 65536 := by
  unfold unitP
  split
  · omega
  · rcases unitA_bd (l.take 4) 0 (by omega) with h | ⟨h1, h2⟩
    · omega
    · have hl : (l.take 4).length = 4 := by rw [List.length_take]; omega
      rw [hl] at h2
      have : (0 + 1) * (16 : Int) ^ 4 = 65536 := by decide
      omega
def simpleP (c : Int) : Int := if c = 34 ∨ c = 92 ∨ c = 47 then c else if c = 98 then 8 else if c = 102 then 12 else if c = 110 then 10 else if c = 114 then 13 else if c = 116 then 9 else -1
def lowP (l : List UInt8) : Int := if l.take 2 = [92, 117] then unitP (l.drop 2) else -1
def unitsP (l : List UInt8) : Int × Nat :=
  if unitP (l.drop 2) < 55296 ∨ 57343 < unitP (l.drop 2) then (unitP (l.drop 2), 6)
  else if unitP (l.drop 2) < 56320 ∧ 56320 ≤ lowP (l.drop 6) ∧ lowP (l.drop 6) ≤ 57343 then (65536 + (unitP (l.drop 2) - 55296) * 1024 + (lowP (l.drop 6) - 56320), 12)
  else (65533, 6)
def escP (l : List UInt8) : List UInt8 → Int × Nat
  | [] => (-1, 0)
  | b :: _ => if b = 117 then unitsP l else (simpleP b.toNat, 2)
def charP : List UInt8 → Int × Nat
  | [] => (-1, 0)
  | a :: r =>
    if a = 34 ∨ a < 32 then (-1, 0)
    else if a ≠ 92 then (if (uscal (a :: r)).2 = 0 then -1 else (uscal (a :: r)).1, (uscal (a :: r)).2)
    else escP (a :: r) r
end Go.Proofs.Le
end
section
set_option maxRecDepth 100000
namespace Go.Proofs.YtjelneeeijjpiaaGreatDoor.Tx
open Go.RowKit Go.Proofs.Lw Go.Proofs.Le
theorem hex_any (c : Int) (w : World) (h0 : 0 ≤ c) (h1 : c ≤ 255) :
    Calls Tryz.prog 358 #[.int .u8 c] w fun e w' => e = .returned (.int .i64 (hexP c)) ∧ w = w' := by
  go_enter Tryz.func358, Tryz.ntmps358
  go_wp2
  all_goals
    go_ret
    go_light
    refine ⟨ret_i64 ?_, rfl⟩
    try simp only [beq_iff_eq, beq_eq_false_iff_ne, ne_eq] at *
    unfold hexP
    repeat' split
    all_goals omega
theorem simple_any (c : Int) (w : World) (h0 : 0 ≤ c) (h1 : c ≤ 255) :
    Calls Tryz.prog 282 #[.int .u8 c] w fun e w' => e = .returned (.int .i64 (simpleP c)) ∧ w = w' := by
  go_enter Tryz.func282, Tryz.ntmps282
  go_wp2
  all_goals
    go_ret
    go_light
    refine ⟨ret_i64 ?_, rfl⟩
    try simp only [beq_iff_eq, beq_eq_false_iff_ne, ne_eq] at *
    unfold simpleP
    repeat' split
    all_goals omega
theorem hex_to (c R : Int) (w : World) (h0 : 0 ≤ c) (h1 : c ≤ 255) (h : Hid (hexP c = R)) :
    Calls Tryz.prog 358 #[.int .u8 c] w fun e w' => e = .returned (.int .i64 R) ∧ w = w' := by
  rw [← h.out]; exact hex_any c w h0 h1
theorem unitA_step (s : ByteArray) (k : Nat) (n d R : Int) (h4 : 4 ≤ s.size) (hk : k < 4) (hd : hexP ((s[k]'(by omega)).toNat) = d) (hR : unitA n ((s.data.toList.take 4).drop k) = R) : if d < 0 then R = -1 else unitA (n * 16 + d) ((s.data.toList.take 4).drop (k + 1)) = R := by
  have hl : k < (s.data.toList.take 4).length := by simp; omega
  rw [List.drop_eq_getElem_cons hl] at hR
  have e : (s.data.toList.take 4)[k] = s[k]'(by omega) := by simp; rfl
  rw [e, unitA, hd] at hR
  split at hR
  · rename_i h; rw [if_pos h]; exact hR.symm
  · rename_i h; rw [if_neg h]; exact hR
theorem pow_small (k : Nat) (hk : k < 4) (N : Int) (h : N + 1 ≤ 16 ^ k) : N ≤ 4095 := by
  match k, hk with
  | 0, _ => simp at h; omega
  | 1, _ => simp at h; omega
  | 2, _ => have : (16 : Int) ^ 2 = 256 := by decide
            omega
  | 3, _ => have : (16 : Int) ^ 3 = 4096 := by decide
            omega
set_option maxRecDepth 100000 in
set_option maxHeartbeats 1000000 in
theorem unit_any (s : ByteArray) (R : Int) (w : World) (hs : s.size ≤ maxLen) (hR : Hid (unitP s.data.toList = R)) :
    Calls Tryz.prog 329 #[.string s] w fun e w' => e = .returned (.int .i64 R) ∧ w = w' := by
  unfold maxLen at hs
  by_cases h4 : s.size < 4
  · have HR : Hid (R = -1) := Lib.hid (by rw [← hR.out, unitP, if_pos (by simpa using h4)])
    go_enter Tryz.func329, Tryz.ntmps329
    go_wp2_with fail
    go_ret
    exact ⟨ret_i64 HR.out.symm, rfl⟩
  · have HR : Hid (unitA 0 (s.data.toList.take 4) = R) := Lib.hid (by rw [← hR.out, unitP, if_neg (by simpa using h4)])
    go_enter Tryz.func329, Tryz.ntmps329
    go_wp2_with fail
    go_loopg [3, 9] 4 (fun g v i wr => ∃ (k : Nat) (N : Int), k ≤ 4 ∧ g = 4 - k ∧ v = .int .i64 N ∧ i = .int .i64 k ∧ 0 ≤ N ∧ Hid (N + 1 ≤ 16 ^ k) ∧ Hid (unitA N ((s.data.toList.take 4).drop k) = R) ∧ w = wr)
    case atStart => exact ⟨0, 0, by omega, rfl, rfl, rfl, by omega, Lib.hid (by decide), HR, rfl⟩
    case round =>
      obtain ⟨k, N, hk, rfl, rfl, rfl, hN, hP, hA, rfl⟩ := hrel
      by_cases hlt : k < 4
      · have hN4 : N ≤ 4095 := pow_small k hlt N hP.out
        have hb := u8_le (s[k]'(by omega))
        obtain ⟨d, hd⟩ : ∃ d, hexP ((s[k]'(by omega)).toNat) = d := ⟨_, rfl⟩
        have hdb := hexP_bd ((s[k]'(by omega)).toNat)
        rw [hd] at hdb
        have HD := Lib.hid hd
        have HS := Lib.hid (unitA_step s k N d R (by omega) hlt hd hA.out)
        clear hd
        by_cases hd0 : d < 0
        · have HRm : Hid (R = -1) := Lib.hid (by have := HS.out; rw [if_pos hd0] at this; exact this)
          go_wp2_with (go_at_call 358; refine (hex_to _ d _ (by omega) (by omega) HD).mono ?_; rintro e w' ⟨rfl, rfl⟩)
          go_ret
          exact ⟨ret_i64 HRm.out.symm, rfl⟩
        · have HS' : Hid (unitA (N * 16 + d) ((s.data.toList.take 4).drop (k + 1)) = R) := Lib.hid (by have := HS.out; rw [if_neg hd0] at this; exact this)
          have hjn := i64_join 4 (N * 16) d (by omega) (by omega) (by omega) (by omega) (by omega) (by omega)
          have hP' : Hid (N * 16 + d + 1 ≤ 16 ^ (k + 1)) := Lib.hid (by rw [Int.pow_succ]; have := hP.out; omega)
          go_wp2_with (go_at_call 358; refine (hex_to _ d _ (by omega) (by omega) HD).mono ?_; rintro e w' ⟨rfl, rfl⟩)
          go_roundg (4 - (k + 1))
          case measure => go_light; omega
          case rel => go_light; exact ⟨k + 1, N * 16 + d, by omega, rfl, rfl, by go_num, by omega, hP', HS', rfl⟩
      · have HE : Hid (N = R) := Lib.hid (by
          have := hA.out
          rw [List.drop_of_length_le (by simp; omega)] at this; exact this)
        go_wp2_with fail
        go_ret
        exact ⟨ret_i64 HE.out, rfl⟩
end Go.Proofs.YtjelneeeijjpiaaGreatDoor.Tx
end
section
set_option maxRecDepth 100000
namespace Go.Proofs.YtjelneeeijjpiaaGreatDoor.Tx
open Go.RowKit Go.Proofs.Lw Go.Proofs.Le
theorem take_cmp (s p : ByteArray) (R : Bool) (hR : R = true ↔ s.data.toList.take p.size = p.data.toList) : ((s.extract 0 p.size).toList == p.toList) = R := by
  rw [ByteArray.toList_eq, ByteArray.toList_eq, Lib.extract_data, List.drop_zero, Nat.sub_zero]
  cases R
  · rw [beq_eq_false_iff_ne]; exact fun h => absurd (hR.2 h) (by decide)
  · rw [beq_iff_eq]; exact hR.1 rfl
theorem hp_short {s p : ByteArray} {R : Bool} (h : s.size < p.size) (hR : R = true ↔ s.data.toList.take p.size = p.data.toList) : R = false := by
  cases R
  · rfl
  · have := congrArg List.length (hR.1 rfl)
    rw [List.length_take] at this
    have h1 : s.data.toList.length = s.size := (Lib.size_eq s).symm
    have h2 : p.data.toList.length = p.size := (Lib.size_eq p).symm
    omega
set_option maxRecDepth 100000 in
theorem hp35_any (s p : ByteArray) (R : Bool) (w : World) (hs : s.size ≤ maxLen) (hp : p.size ≤ maxLen) (hR : Hid (R = true ↔ s.data.toList.take p.size = p.data.toList)) :
    Calls Tryz.prog 316 #[.string s, .string p] w fun e w' => e = .returned (.bool R) ∧ w = w' := by
  unfold maxLen at hs hp
  by_cases hl : s.size < p.size
  · have hRf := Lib.hid (hp_short hl hR.out)
    have h1 : ¬ (p.size : Int) ≤ (s.size : Int) := by omega
    go_enter Tryz.func316, Tryz.ntmps316
    go_wp2_with fail
    go_ret
    exact ⟨by rw [hRf.out]; rfl, rfl⟩
  · have h1 : (p.size : Int) ≤ (s.size : Int) := by omega
    have hc := take_cmp s p R hR.out
    go_enter Tryz.func316, Tryz.ntmps316
    go_wp2_with fail
    go_ret
    exact ⟨by rw [← hc]; rfl, rfl⟩
theorem hp_any (s p : ByteArray) (R : Bool) (w : World) (hs : s.size ≤ maxLen) (hp : p.size ≤ maxLen) (hR : Hid (R = true ↔ s.data.toList.take p.size = p.data.toList)) :
    Calls Tryz.prog 270 #[.string s, .string p] w fun e w' => e = .returned (.bool R) ∧ w = w' := by
  go_enter Tryz.func270, Tryz.ntmps270
  go_wp2_with (go_at_call 316; refine (hp35_any s p R _ hs hp hR).mono ?_; rintro e w' ⟨rfl, rfl⟩)
  go_ret
  exact ⟨rfl, rfl⟩
theorem unitP_long (l : List UInt8) (h : 0 ≤ unitP l) : 4 ≤ l.length := by
  unfold unitP at h
  split at h
  · omega
  · omega
theorem unit_at (s : ByteArray) (k : Nat) (R : Int) (w : World) (hs : s.size ≤ maxLen) (hR : Hid (unitP (s.data.toList.drop k) = R)) :
    Calls Tryz.prog 329 #[.string (s.extract k s.size)] w fun e w' => e = .returned (.int .i64 R) ∧ w = w' := by
  refine unit_any _ R w (by simp; omega) (Lib.hid ?_)
  rw [Lib.extract_data, List.take_of_length_le (by simp)]; exact hR.out
theorem hp_at (s : ByteArray) (k : Nat) (p : ByteArray) (R : Bool) (w : World) (hs : s.size ≤ maxLen) (hp : p.size ≤ maxLen) (hR : Hid (R = true ↔ (s.data.toList.drop k).take p.size = p.data.toList)) :
    Calls Tryz.prog 270 #[.string (s.extract k s.size), .string p] w fun e w' => e = .returned (.bool R) ∧ w = w' := by
  refine hp_any _ p R w (by simp; omega) hp (Lib.hid ?_)
  rw [Lib.extract_data, List.take_of_length_le (l := List.drop k _) (by simp)]; exact hR.out
theorem hp_yes (s : ByteArray) (k : Nat) (p : ByteArray) (w : World) (hs : s.size ≤ maxLen) (hp : p.size ≤ maxLen) (h : Hid ((s.data.toList.drop k).take p.size = p.data.toList)) :
    Calls Tryz.prog 270 #[.string (s.extract k s.size), .string p] w fun e w' => e = .returned (.bool true) ∧ w = w' := hp_at s k p true w hs hp (Lib.hid ⟨fun _ => h.out, fun _ => rfl⟩)
theorem hp_no (s : ByteArray) (k : Nat) (p : ByteArray) (w : World) (hs : s.size ≤ maxLen) (hp : p.size ≤ maxLen) (h : Hid (¬ (s.data.toList.drop k).take p.size = p.data.toList)) :
    Calls Tryz.prog 270 #[.string (s.extract k s.size), .string p] w fun e w' => e = .returned (.bool false) ∧ w = w' := hp_at s k p false w hs hp (Lib.hid ⟨fun h' => absurd h' (by decide), fun h' => absurd h' h.out⟩)
theorem ret_two {a b : Int} {m n : Int} (h : a = b) (h2 : m = n) : Ending.returned (.tuple #[.int .i64 a, .int .i64 m]) = .returned (.tuple #[.int .i64 b, .int .i64 n]) := by rw [h, h2]
set_option maxRecDepth 100000 in
set_option maxHeartbeats 1000000 in
theorem units_any (s : ByteArray) (R : Int) (M : Nat) (w : World) (hs : s.size ≤ maxLen) (h2 : 2 ≤ s.size) (hR : Hid (unitsP s.data.toList = (R, M))) :
    Calls Tryz.prog 281 #[.string s] w fun e w' => e = .returned (.tuple #[.int .i64 R, .int .i64 (M : Nat)]) ∧ w = w' := by
  have hsz : Hid (s.size = s.data.toList.length) := Lib.hid (Lib.size_eq s)
  obtain ⟨a, ha⟩ : ∃ a, Hid (unitP (s.data.toList.drop 2) = a) := ⟨_, Lib.hid rfl⟩
  have hab := unitP_bd (s.data.toList.drop 2)
  rw [ha.out] at hab
  by_cases hd : a < 55296 ∨ 57343 < a
  · have HR : Hid (a = R ∧ (6 : Int) = (M : Nat)) := Lib.hid (by
      have := hR.out
      rw [unitsP, ha.out, if_pos hd] at this
      simp only [Prod.mk.injEq] at this
      exact ⟨this.1, by omega⟩)
    have hd' : a < 55296 ∨ ¬ a < 55296 ∧ 57343 < a := by omega
    clear hd
    go_enter Tryz.func281, Tryz.ntmps281
    go_wp2_with fail
    refine (unit_at s 2 a _ hs ha).mono ?_; rintro e w' ⟨rfl, rfl⟩
    rcases hd' with hd | ⟨hd, hd1⟩
    · go_wp2_with fail
      go_ret2
      exact ⟨ret_two HR.out.1 HR.out.2, rfl⟩
    · go_wp2_with fail
      go_ret2
      exact ⟨ret_two HR.out.1 HR.out.2, rfl⟩
  · have h6 : 6 ≤ s.size := by
      have h4 := unitP_long (s.data.toList.drop 2) (by rw [ha.out] <;> omega)
      rw [List.length_drop, ← hsz.out] at h4; omega
    have h6' : (6 : Int) ≤ (s.size : Int) := by omega
    have hd0 : ¬ a < 55296 := by omega
    have hd1 : ¬ 57343 < a := by omega
    by_cases hlo : a < 56320
    case neg =>
      have HR : Hid ((65533 : Int) = R ∧ (6 : Int) = (M : Nat)) := Lib.hid (by
        have := hR.out
        rw [unitsP, ha.out, if_neg hd, if_neg (by omega)] at this
        simp only [Prod.mk.injEq] at this
        exact ⟨this.1, by omega⟩)
      clear hd
      go_enter Tryz.func281, Tryz.ntmps281
      go_wp2_with fail
      refine (unit_at s 2 a _ hs ha).mono ?_; rintro e w' ⟨rfl, rfl⟩
      go_wp2_with fail
      go_ret2
      exact ⟨ret_two HR.out.1 HR.out.2, rfl⟩
    case pos =>
    by_cases hPv : (s.data.toList.drop 6).take 2 = [92, 117]
    case neg =>
      have HP : Hid (¬ (s.data.toList.drop 6).take (⟨#[92, 117]⟩ : ByteArray).size = (⟨#[92, 117]⟩ : ByteArray).data.toList) := Lib.hid hPv
      have HR : Hid ((65533 : Int) = R ∧ (6 : Int) = (M : Nat)) := Lib.hid (by
        have hl : lowP (s.data.toList.drop 6) = -1 := if_neg hPv
        have := hR.out
        rw [unitsP, ha.out, if_neg hd, hl, if_neg (by omega)] at this
        simp only [Prod.mk.injEq] at this
        exact ⟨this.1, by omega⟩)
      clear hPv hd
      go_enter Tryz.func281, Tryz.ntmps281
      go_wp2_with fail
      refine (unit_at s 2 a _ hs ha).mono ?_; rintro e w' ⟨rfl, rfl⟩
      go_wp2_with fail
      refine (hp_no s 6 ⟨#[92, 117]⟩ _ hs (by decide) HP).mono ?_; rintro e w' ⟨rfl, rfl⟩
      go_wp2_with fail
      go_ret2
      exact ⟨ret_two HR.out.1 HR.out.2, rfl⟩
    case pos =>
      have HP : Hid ((s.data.toList.drop 6).take (⟨#[92, 117]⟩ : ByteArray).size = (⟨#[92, 117]⟩ : ByteArray).data.toList) := Lib.hid hPv
      have hl : lowP (s.data.toList.drop 6) = unitP ((s.data.toList.drop 6).drop 2) := if_pos hPv
      have h8 : 2 ≤ (s.extract 6 s.size).size := by
        have := congrArg List.length hPv
        rw [List.length_take, List.length_drop, ← hsz.out] at this
        simp at this ⊢; omega
      have h8' : (2 : Int) ≤ ((s.extract 6 s.size).size : Int) := by omega
      obtain ⟨b, hb⟩ : ∃ b, Hid (unitP ((s.extract 6 s.size).extract 2 (s.size - 6)).data.toList = b) := ⟨_, Lib.hid rfl⟩
      have hbb : unitP ((s.data.toList.drop 6).drop 2) = b := by
        have := hb.out
        rw [Lib.extract_data, Lib.extract_data, List.take_of_length_le (l := List.drop 6 _) (by simp), List.take_of_length_le (l := List.drop 2 _) (by simp; omega)] at this; exact this
      have hbd := unitP_bd ((s.data.toList.drop 6).drop 2)
      rw [hbb] at hbd
      have hxs : ((s.extract 6 s.size).extract 2 (s.size - 6)).size ≤ maxLen := by simp; omega
      have HX : Hid (if 56320 ≤ b ∧ b ≤ 57343 then (65536 + (a - 55296) * 1024 + (b - 56320), 12) = (R, M) else ((65533 : Int), 6) = (R, M)) := Lib.hid (by
        have := hR.out
        rw [unitsP, ha.out, if_neg hd, hl, hbb] at this
        split
        · rename_i h; rw [if_pos ⟨hlo, h⟩] at this; exact this
        · rename_i h; rw [if_neg (fun h' => h h'.2)] at this; exact this)
      clear hPv hd hl hbb
      by_cases hin : 56320 ≤ b ∧ b ≤ 57343
      · have HR : Hid (65536 + (a - 55296) * 1024 + (b - 56320) = R ∧ (12 : Int) = (M : Nat)) := Lib.hid (by
          have := HX.out
          rw [if_pos hin] at this
          simp only [Prod.mk.injEq] at this
          exact ⟨this.1, by omega⟩)
        obtain ⟨i1, i2⟩ := hin
        have hA : bits .and .i64 a 1023 = a - 55296 := by
          have h := i64_and_pow a 10 1023 (by decide) (by decide) (by omega) (by omega)
          exact (show bits .and .i64 a 1023 = a % ((1023 + 1 : Nat) : Int) from h).trans (by omega)
        have hB : bits .and .i64 b 1023 = b - 56320 := by
          have h := i64_and_pow b 10 1023 (by decide) (by decide) (by omega) (by omega)
          exact (show bits .and .i64 b 1023 = b % ((1023 + 1 : Nat) : Int) from h).trans (by omega)
        go_enter Tryz.func281, Tryz.ntmps281
        go_wp2_with fail
        refine (unit_at s 2 a _ hs ha).mono ?_; rintro e w' ⟨rfl, rfl⟩
        go_wp2_with fail
        refine (hp_yes s 6 ⟨#[92, 117]⟩ _ hs (by decide) HP).mono ?_; rintro e w' ⟨rfl, rfl⟩
        go_wp2_with fail
        refine (unit_any _ b _ hxs hb).mono ?_; rintro e w' ⟨rfl, rfl⟩
        go_wp2_with fail
        go_ret2
        exact ⟨ret_two HR.out.1 HR.out.2, rfl⟩
      · have HR : Hid ((65533 : Int) = R ∧ (6 : Int) = (M : Nat)) := Lib.hid (by
          have := HX.out
          rw [if_neg hin] at this
          simp only [Prod.mk.injEq] at this
          exact ⟨this.1, by omega⟩)
        have hin' : ¬ 56320 ≤ b ∨ 56320 ≤ b ∧ ¬ b ≤ 57343 := by omega
        clear hin
        go_enter Tryz.func281, Tryz.ntmps281
        go_wp2_with fail
        refine (unit_at s 2 a _ hs ha).mono ?_; rintro e w' ⟨rfl, rfl⟩
        go_wp2_with fail
        refine (hp_yes s 6 ⟨#[92, 117]⟩ _ hs (by decide) HP).mono ?_; rintro e w' ⟨rfl, rfl⟩
        go_wp2_with fail
        refine (unit_any _ b _ hxs hb).mono ?_; rintro e w' ⟨rfl, rfl⟩
        rcases hin' with hin | ⟨hin1, hin⟩
        all_goals
          go_wp2_with fail
          go_ret2
          exact ⟨ret_two HR.out.1 HR.out.2, rfl⟩
end Go.Proofs.YtjelneeeijjpiaaGreatDoor.Tx
end
section
set_option maxRecDepth 100000
namespace Go.Proofs.YtjelneeeijjpiaaGreatDoor.Tx
open Go.RowKit Go.Proofs.Lw Go.Proofs.Le
theorem list_cons (s : ByteArray) (h : 0 < s.size) : s.data.toList = s[0] :: s.data.toList.drop 1 := by
  have hl : 0 < s.data.toList.length := by rw [← Lib.size_eq]; exact h
  have := List.drop_eq_getElem_cons hl
  rw [List.drop_zero] at this
  rw [this]; rfl
theorem list_cons2 (s : ByteArray) (h : 1 < s.size) : s.data.toList = s[0] :: s[1] :: s.data.toList.drop 2 := by
  have hl : 1 < s.data.toList.length := by rw [← Lib.size_eq]; exact h
  rw [list_cons s (by omega)]
  have := List.drop_eq_getElem_cons hl
  rw [this]; rfl
theorem charP_low {l r : List UInt8} {a : UInt8} (h : l = a :: r) (ha : a = 34 ∨ a < 32) : charP l = (-1, 0) := by subst h; rw [charP, if_pos ha]
theorem charP_plain {l r : List UInt8} {a : UInt8} (h : l = a :: r) (h1 : ¬ (a = 34 ∨ a < 32)) (h2 : a ≠ 92) : charP l = (if (uscal l).2 = 0 then -1 else (uscal l).1, (uscal l).2) := by subst h; rw [charP, if_neg h1, if_pos h2]
theorem charP_one {l : List UInt8} (h : l = [92]) : charP l = (-1, 0) := by subst h; rfl
theorem charP_u {l r : List UInt8} (h : l = 92 :: 117 :: r) : charP l = unitsP l := by subst h; rfl
theorem charP_simple {l r : List UInt8} {b : UInt8} (h : l = 92 :: b :: r) (hb : b ≠ 117) : charP l = (simpleP b.toNat, 2) := by
  subst h
  rw [charP, if_neg (by decide), if_neg (by decide), escP, if_neg hb]
theorem u8_int {a : UInt8} {n : Nat} (hn : n < 256) : (a.toNat : Int) = n ↔ a = UInt8.ofNat n := by
  constructor
  · intro h
    apply UInt8.toNat_inj.1
    simp only [UInt8.toNat_ofNat']; omega
  · intro h; subst h; simp only [UInt8.toNat_ofNat']; omega
theorem simple_to (c R : Int) (w : World) (h0 : 0 ≤ c) (h1 : c ≤ 255) (h : Hid (simpleP c = R)) :
    Calls Tryz.prog 282 #[.int .u8 c] w fun e w' => e = .returned (.int .i64 R) ∧ w = w' := by
  rw [← h.out]; exact simple_any c w h0 h1
theorem scalar_to (s : ByteArray) (C : Int) (N : Nat) (w : World) (hs : s.size ≤ maxLen) (h : Hid (uscal s.data.toList = (C, N))) :
    Calls Tryz.prog 280 #[.string s] w fun e w' => e = .returned (.tuple #[.int .i64 C, .int .i64 (N : Nat)]) ∧ w = w' := by
  have := scalar_any s w hs
  rw [h.out] at this; exact this
set_option maxRecDepth 100000 in
set_option maxHeartbeats 1000000 in
theorem char_any (s : ByteArray) (C : Int) (M : Nat) (w : World) (hs : s.size ≤ maxLen) (hC : Hid (charP s.data.toList = (C, M))) :
    Calls Tryz.prog 212 #[.string s] w fun e w' => e = .returned (.tuple #[.int .i64 C, .int .i64 (M : Nat)]) ∧ w = w' := by
  by_cases h0 : s.size = 0
  · have HR : Hid ((-1 : Int) = C ∧ (0 : Int) = (M : Nat)) := Lib.hid (by
      have := hC.out
      rw [show s.data.toList = [] from List.eq_nil_of_length_eq_zero (by rw [← Lib.size_eq]; exact h0)] at this
      simp only [charP, Prod.mk.injEq] at this
      exact ⟨this.1, by omega⟩)
    have hem : s.toList.isEmpty = true := by
      rw [ByteArray.toList_eq, show s.data.toList = [] from List.eq_nil_of_length_eq_zero (by rw [← Lib.size_eq]; exact h0)]; rfl
    go_enter Tryz.func212, Tryz.ntmps212
    go_wp2_with fail
    go_ret2
    exact ⟨ret_two HR.out.1 HR.out.2, rfl⟩
  · have hpos : 0 < s.size := by omega
    have hem : s.toList.isEmpty = false := by
      rw [ByteArray.toList_eq]
      have : s.data.toList.length = s.size := (Lib.size_eq s).symm
      cases hq : s.data.toList with
      | nil => rw [hq] at this; simp at this; omega
      | cons a l => rfl
    have hu := u8_le s[0]
    by_cases hlow : s[0] = 34 ∨ s[0] < 32
    · have HR : Hid ((-1 : Int) = C ∧ (0 : Int) = (M : Nat)) := Lib.hid (by
        have := hC.out
        rw [charP_low (list_cons s hpos) hlow] at this
        simp only [Prod.mk.injEq] at this
        exact ⟨this.1, by omega⟩)
      have hl : (s[0].toNat : Int) = 34 ∨ (¬ (s[0].toNat : Int) = 34 ∧ (s[0].toNat : Int) < 32) := by
        by_cases h : s[0] = 34
        · left; exact (u8_int (n := 34) (by decide)).2 h
        · right
          refine ⟨fun h' => h ((u8_int (n := 34) (by decide)).1 h'), ?_⟩
          have := hlow.resolve_left h
          have := UInt8.lt_iff_toNat_lt.1 this
          have e : (32 : UInt8).toNat = 32 := rfl
          omega
      clear hlow hC
      rcases hl with hl | ⟨hl, hl2⟩
      · have hbe : ((s[0].toNat : Int) == 34) = true := by rw [beq_iff_eq]; exact hl
        clear hl
        go_enter Tryz.func212, Tryz.ntmps212
        go_wp2_with fail
        go_ret2
        exact ⟨ret_two HR.out.1 HR.out.2, rfl⟩
      · have hbe : ((s[0].toNat : Int) == 34) = false := by rw [beq_eq_false_iff_ne]; exact hl
        go_enter Tryz.func212, Tryz.ntmps212
        go_wp2_with fail
        go_ret2
        exact ⟨ret_two HR.out.1 HR.out.2, rfl⟩
    · have hn34 : ¬ (s[0].toNat : Int) = 34 := fun h => hlow (.inl ((u8_int (n := 34) (by decide)).1 h))
      have hbe : ((s[0].toNat : Int) == 34) = false := by rw [beq_eq_false_iff_ne]; exact hn34
      have hge : ¬ (s[0].toNat : Int) < 32 := fun h => hlow (.inr (UInt8.lt_iff_toNat_lt.2 (by have e : (32 : UInt8).toNat = 32 := rfl
                                                                                               omega)))
      by_cases h92 : s[0] = 92
      case neg =>
        obtain ⟨c, m, hcm⟩ : ∃ c m, uscal s.data.toList = (c, m) := ⟨_, _, rfl⟩
        have HS := Lib.hid hcm
        have hb92 : ((s[0].toNat : Int) == 92) = false := by rw [beq_eq_false_iff_ne]; exact fun h => h92 ((u8_int (n := 92) (by decide)).1 h)
        have HR : Hid ((if m = 0 then -1 else c, m) = (C, M)) := Lib.hid (by
          rw [← hC.out, charP_plain (list_cons s hpos) hlow h92, hcm])
        clear hlow hC hcm h92 hn34
        by_cases hm : m = 0
        · subst hm
          have HR2 : Hid ((-1 : Int) = C ∧ ((0 : Nat) : Int) = (M : Nat)) := Lib.hid (by
            have := HR.out
            rw [if_pos rfl] at this
            simp only [Prod.mk.injEq] at this
            exact ⟨this.1, by omega⟩)
          go_enter Tryz.func212, Tryz.ntmps212
          go_wp2_with (go_at_call 280; refine (scalar_to s c 0 _ hs HS).mono ?_; rintro e w' ⟨rfl, rfl⟩)
          go_ret2
          exact ⟨ret_two HR2.out.1 HR2.out.2, rfl⟩
        · have HR2 : Hid (c = C ∧ (m : Int) = (M : Nat)) := Lib.hid (by
            have := HR.out
            rw [if_neg hm] at this
            simp only [Prod.mk.injEq] at this
            exact ⟨this.1, by omega⟩)
          have hmb : ((m : Int) == 0) = false := by rw [beq_eq_false_iff_ne]; omega
          go_enter Tryz.func212, Tryz.ntmps212
          go_wp2_with (go_at_call 280; refine (scalar_to s c m _ hs HS).mono ?_; rintro e w' ⟨rfl, rfl⟩)
          go_ret2
          exact ⟨ret_two HR2.out.1 HR2.out.2, rfl⟩
      case pos =>
      have hb92 : ((s[0].toNat : Int) == 92) = true := by rw [beq_iff_eq]; exact (u8_int (n := 92) (by decide)).2 h92
      by_cases h2 : s.size < 2
      · have HR : Hid ((-1 : Int) = C ∧ (0 : Int) = (M : Nat)) := Lib.hid (by
          have := hC.out
          rw [charP_one (by rw [list_cons s hpos, h92, List.drop_eq_nil_of_le (by rw [← Lib.size_eq]; omega)])] at this
          simp only [Prod.mk.injEq] at this
          exact ⟨this.1, by omega⟩)
        have h2' : (s.size : Int) < 2 := by omega
        clear hlow hC h92 hn34
        go_enter Tryz.func212, Tryz.ntmps212
        go_wp2_with fail
        go_ret2
        exact ⟨ret_two HR.out.1 HR.out.2, rfl⟩
      · have h2' : ¬ (s.size : Int) < 2 := by omega
        have h1s : 1 < s.size := by omega
        have hu1 := u8_le s[1]
        by_cases h117 : s[1] = 117
        · have hb117 : ((s[1].toNat : Int) == 117) = true := by rw [beq_iff_eq]; exact (u8_int (n := 117) (by decide)).2 h117
          have HU : Hid (unitsP s.data.toList = (C, M)) := Lib.hid (by
            rw [← hC.out]; exact (charP_u (by rw [list_cons2 s h1s, h92, h117])).symm)
          clear hlow hC h92 hn34 h117
          go_enter Tryz.func212, Tryz.ntmps212
          go_wp2_with fail
          refine (units_any s C M _ hs (by omega) HU).mono ?_; rintro e w' ⟨rfl, rfl⟩
          go_wp2_with fail
          go_ret2
          exact ⟨rfl, rfl⟩
        · have hb117 : ((s[1].toNat : Int) == 117) = false := by rw [beq_eq_false_iff_ne]; exact fun h => h117 ((u8_int (n := 117) (by decide)).1 h)
          obtain ⟨v, hv⟩ : ∃ v, Hid (simpleP s[1].toNat = v) := ⟨_, Lib.hid rfl⟩
          have HR : Hid (v = C ∧ (2 : Int) = (M : Nat)) := Lib.hid (by
            have := hC.out
            rw [charP_simple (by rw [list_cons2 s h1s, h92]) h117, hv.out] at this
            simp only [Prod.mk.injEq] at this
            exact ⟨this.1, by omega⟩)
          clear hlow hC h92 hn34 h117
          go_enter Tryz.func212, Tryz.ntmps212
          go_wp2_with (go_at_call 282; refine (simple_to _ v _ (by omega) (by omega) hv).mono ?_; rintro e w' ⟨rfl, rfl⟩)
          go_ret2
          exact ⟨ret_two HR.out.1 HR.out.2, rfl⟩
end Go.Proofs.YtjelneeeijjpiaaGreatDoor.Tx
end
section
namespace Go.Proofs.Le
open Go.Proofs.Lw
def evs (l : List UInt8) : Nat → Nat → List (Int × Int)
  | 0, _ => []
  | f + 1, k =>
    if k < l.length ∧ l[k]? ≠ some 34 then ((charP (l.drop k)).1, ((k + (charP (l.drop k)).2 : Nat) : Int)) :: (if (charP (l.drop k)).1 = -1 then [] else evs l f (k + (charP (l.drop k)).2))
    else if k + 1 = l.length then [] else [(-1, (k : Int))]
def charsL (l : List UInt8) : List (Int × Int) := if l[0]? = some 34 then evs l (l.length + 1) 1 else [(-1, 0)]
theorem unitsP_len (l : List UInt8) (c : Int) (m : Nat) (h : unitsP l = (c, m)) : 6 ≤ m ∧ m ≤ 12 ∧ (c ≠ -1 → m ≤ l.length) := by
  have hlong : ∀ k : List UInt8, 0 ≤ unitP k → 4 ≤ k.length := fun k hk => by
    unfold unitP at hk
    split at hk <;> omega
  have hb := unitP_bd (l.drop 2)
  unfold unitsP at h
  split at h
  · simp only [Prod.mk.injEq] at h
    obtain ⟨rfl, rfl⟩ := h
    refine ⟨by omega, by omega, fun hc => ?_⟩
    have := hlong _ (show 0 ≤ unitP (l.drop 2) by omega)
    rw [List.length_drop] at this; omega
  · rename_i h0
    have h4 := hlong (l.drop 2) (by omega)
    rw [List.length_drop] at h4
    split at h
    · rename_i h1
      simp only [Prod.mk.injEq] at h
      obtain ⟨rfl, rfl⟩ := h
      refine ⟨by omega, by omega, fun _ => ?_⟩
      unfold lowP at h1
      split at h1
      · have := hlong _ (show 0 ≤ unitP ((l.drop 6).drop 2) by omega)
        rw [List.length_drop, List.length_drop] at this; omega
      · omega
    · simp only [Prod.mk.injEq] at h
      obtain ⟨rfl, rfl⟩ := h
      exact ⟨by omega, by omega, fun _ => by omega⟩
theorem charP_len (l : List UInt8) (c : Int) (m : Nat) (h : charP l = (c, m)) (hu : (uscal l).2 ≤ l.length) : m ≤ 12 + l.length ∧ (c ≠ -1 → 1 ≤ m ∧ m ≤ l.length) := by
  cases l with
  | nil =>
    simp only [charP, Prod.mk.injEq] at h
    obtain ⟨rfl, rfl⟩ := h
    exact ⟨by omega, fun h => absurd rfl h⟩
  | cons a r =>
    rw [charP] at h
    split at h
    · simp only [Prod.mk.injEq] at h
      obtain ⟨rfl, rfl⟩ := h
      exact ⟨by omega, fun h => absurd rfl h⟩
    · split at h
      · simp only [Prod.mk.injEq] at h
        obtain ⟨h1, rfl⟩ := h
        refine ⟨by omega, fun hc => ⟨?_, hu⟩⟩
        by_cases h0 : (uscal (a :: r)).2 = 0
        · rw [if_pos h0] at h1; exact absurd h1.symm hc
        · omega
      · cases r with
        | nil =>
          simp only [escP, Prod.mk.injEq] at h
          obtain ⟨rfl, rfl⟩ := h
          exact ⟨by omega, fun h => absurd rfl h⟩
        | cons b r =>
          rw [escP] at h
          split at h
          · have := unitsP_len _ _ _ h
            exact ⟨by omega, fun hc => ⟨by omega, this.2.2 hc⟩⟩
          · simp only [Prod.mk.injEq] at h
            obtain ⟨rfl, rfl⟩ := h
            exact ⟨by omega, fun _ => ⟨by omega, by simp⟩⟩
theorem evs_in (l : List UInt8) (f k : Nat) (c : Int) (m : Nat) (h : k < l.length ∧ l[k]? ≠ some 34) (hc : charP (l.drop k) = (c, m)) : evs l (f + 1) k = (c, ((k + m : Nat) : Int)) :: (if c = -1 then [] else evs l f (k + m)) := by
  rw [evs, if_pos h, hc]
theorem evs_out (l : List UInt8) (f k : Nat) (h : ¬ (k < l.length ∧ l[k]? ≠ some 34)) : evs l (f + 1) k = if k + 1 = l.length then [] else [(-1, (k : Int))] := by
  rw [evs, if_neg h]
end Go.Proofs.Le
end
