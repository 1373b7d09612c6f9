/- TopText: walks and plain laws, part 1: lemmas on what the functions that the law comes to compute. -/
import Derived.Test.YtjelneeeijjpiaaGreatDoorRows
import Derived.WalkKit
import Derived.Lib.Hide
import Derived.Outline
import Derived.IntWalk
import Derived.Deep.Light
import Derived.Below
import Derived.Laws.BytesArg
import Derived.Laws.Bits128
import Derived.Laws.BitsAllLaws
import Derived.LoopTactic
import Derived.OwnWalk
set_option linter.unusedVariables false
set_option linter.unusedSimpArgs false
section
namespace Go.Proofs.Lw
def ufirst (b : Int) : Int :=
  if b < 128 then 0
  else if 194 ≤ b ∧ b ≤ 223 then 1
  else if b = 224 then 4
  else if b = 237 then 5
  else if 225 ≤ b ∧ b ≤ 239 then 2
  else if b = 240 then 6
  else if 241 ≤ b ∧ b ≤ 243 then 3
  else if b = 244 then 7
  else 8
def ulow (st : Int) : Int := if st = 4 then 160 else if st = 6 then 144 else 128
def uhigh (st : Int) : Int := if st = 5 then 159 else if st = 7 then 143 else 191
def unext (st : Int) : Int :=
  if st = 4 then 1 else if st = 5 then 1 else if st = 6 then 2 else if st = 7 then 2
  else if st = 1 then 0 else if st = 2 then 1 else if st = 3 then 2 else 8
def ustep (st b : Int) : Int :=
  if st = 0 then ufirst b
  else if b < ulow st ∨ uhigh st < b then 8 else unext st
def ulead (b : Int) : Int := if 240 ≤ b then 3 else if 224 ≤ b then 2 else 1
def putN (c : Int) : List Int :=
  if c < 0 ∨ 1114111 < c ∨ 55296 ≤ c ∧ c ≤ 57343 then []
  else if c < 128 then [c]
  else if c < 2048 then [192 + c / 64, 128 + c % 64]
  else if c < 65536 then [224 + c / 4096, 128 + c / 64 % 64, 128 + c % 64]
  else [240 + c / 262144, 128 + c / 4096 % 64, 128 + c / 64 % 64, 128 + c % 64]
end Go.Proofs.Lw
end
section
set_option maxRecDepth 100000
namespace Go.Proofs.YtjelneeeijjpiaaGreatDoor.Tx
open Go.RowKit Go.Proofs.Lw
theorem ret_i64 {a b : Int} (h : a = b) : Ending.returned (.int .i64 a) = .returned (.int .i64 b) := by rw [h]
theorem first_any (b : Int) (w : World) (h0 : 0 ≤ b) (h1 : b ≤ 255) :
    Calls Tryz.prog 219 #[.int .u8 b] w fun e w' => e = .returned (.int .i64 (ufirst b)) ∧ w = w' := by
  go_enter Tryz.func219, Tryz.ntmps219
  go_wp2
  all_goals
    go_ret
    go_light
    refine ⟨ret_i64 ?_, rfl⟩
    try simp only [beq_iff_eq, beq_eq_false_iff_ne, ne_eq] at *
    unfold ufirst
    repeat' split
    all_goals omega
theorem step_any (st b : Int) (w : World) (h0 : 0 ≤ b) (h1 : b ≤ 255) :
    Calls Tryz.prog 164 #[.int .i64 st, .int .u8 b] w fun e w' => e = .returned (.int .i64 (ustep st b)) ∧ w = w' := by
  go_enter Tryz.func164, Tryz.ntmps164
  go_wp2_with (go_at_call 219; refine (first_any _ _ (by omega) (by omega)).mono ?_; rintro e w' ⟨rfl, rfl⟩)
  all_goals
    go_ret
    go_light
    refine ⟨ret_i64 ?_, rfl⟩
    try simp only [beq_iff_eq, beq_eq_false_iff_ne, ne_eq] at *
    try rw [IntWalk.wrap64_in _ ⟨by omega, by omega⟩]
    unfold ustep ulow uhigh unext
    (repeat' split) <;> first | rfl | omega
end Go.Proofs.YtjelneeeijjpiaaGreatDoor.Tx
end
section
set_option maxRecDepth 100000
namespace Go.Proofs.YtjelneeeijjpiaaGreatDoor.Tx
open Go.RowKit Go.Proofs.Lw
theorem i64_and63 (n : Int) : bits .and .i64 n 63 = n % 64 := by
  have h127 : (BitVec.ofInt 64 63).toNat = 2 ^ 6 - 1 := by decide
  have key : (BitVec.ofInt 64 n &&& BitVec.ofInt 64 63).toNat = (n % ((2 ^ 64 : Nat) : Int)).toNat % 2 ^ 6 := by
    rw [BitVec.toNat_and, BitVec.toNat_ofInt, h127, Nat.and_two_pow_sub_one_eq_mod]
  show IntKind.i64.wrap ((BitVec.ofInt 64 n &&& BitVec.ofInt 64 63).toNat : Nat) = n % 64
  rw [key, IntKind.wrap_i64]
  omega
theorem ofInt_64 (a : Nat) (ha : a < 18446744073709551616) : (BitVec.ofInt 64 (a : Int)).toNat = a := by
  rw [BitVec.toNat_ofInt]; omega
theorem i64_or_nat (a b : Nat) (ha : a < 9223372036854775808) (hb : b < 9223372036854775808) : bits .or .i64 (a : Int) (b : Int) = ((a ||| b : Nat) : Int) := by
  have h : a ||| b < 2 ^ 63 := Nat.or_lt_two_pow ha hb
  show IntKind.i64.wrap ((BitVec.ofInt 64 (a : Int) ||| BitVec.ofInt 64 (b : Int)).toNat : Nat) = _
  rw [BitVec.toNat_or, ofInt_64 _ (by omega), ofInt_64 _ (by omega), IntKind.wrap_i64]
  omega
theorem i64_join (i : Nat) (x y : Int) (hx0 : 0 ≤ x) (hx : x < 9223372036854775808) (h0 : 0 ≤ y) (hi : y < 2 ^ i) (hy : y < 9223372036854775808) (hm : x % 2 ^ i = 0) : bits .or .i64 x y = x + y := by
  obtain ⟨a, rfl⟩ := Int.eq_ofNat_of_zero_le hx0
  obtain ⟨b, rfl⟩ := Int.eq_ofNat_of_zero_le h0
  have h1 : b < 2 ^ i := by exact_mod_cast hi
  have h2 : a % 2 ^ i = 0 := by exact_mod_cast hm
  rw [i64_or_nat _ _ (by omega) (by omega), nat_join i a b h2 h1]; rfl
theorem lead_any (b : Int) (w : World) (h0 : 0 ≤ b) (h1 : b ≤ 255) :
    Calls Tryz.prog 328 #[.int .u8 b] w fun e w' => e = .returned (.int .i64 (ulead b)) ∧ w = w' := by
  go_enter Tryz.func328, Tryz.ntmps328
  go_wp2
  all_goals
    go_ret
    refine ⟨ret_i64 ?_, rfl⟩
    go_light
    unfold ulead
    (repeat' split) <;> first | rfl | omega
theorem tail_any (c : Int) (w : World) :
    Calls Tryz.prog 213 #[.int .i64 c] w fun e w' => e = .returned (.int .u8 (128 + c % 64)) ∧ w = w' := by
  have e : bits .or .i64 128 (c % 64) % 256 = 128 + c % 64 := by
    rw [i64_join 6 128 (c % 64) (by omega) (by omega) (by omega) (by omega) (by omega) (by omega)]; omega
  have e0 := i64_and63 c
  go_enter Tryz.func213, Tryz.ntmps213
  go_wp2
  go_ret
  exact ⟨by show Ending.returned (.int .u8 (bits .or .i64 128 (c % 64) % 256)) = _; rw [e], rfl⟩
theorem conv_new (w : World) (xs : List Int) (n : Nat) (hn : xs.length = n) :
    (convert 29 9 (.slice (some ⟨w.heap.size, 0, none⟩) n n)).run Tryz.prog (w.alloc (.cells (xs.map (Value.int .u8)).toArray 5)) = .ok (.string (strOfNums xs)) (w.alloc (.cells (xs.map (Value.int .u8)).toArray 5)) := by
  refine run_convert_bytes_arg _ 29 5 Tryz.underlying29 Tryz.underlying5 w.heap.size 0 n n xs hn ?_ 9 Tryz.underlying9
  intro i hi
  have hi' : i < xs.length := by omega
  rw [World.cell?_alloc_new]
  simp [List.getD, List.getElem?_eq_getElem hi']
theorem ret_str {a b : ByteArray} (h : a = b) : Ending.returned (.string a) = .returned (.string b) := by rw [h]
theorem put_0 (c : Int) (w : World) (h : c < 0 ∨ 1114111 < c ∨ 55296 ≤ c ∧ c ≤ 57343) :
    Calls Tryz.prog 155 #[.int .i64 c] w fun e w' => e = .returned (.string (strOfNums [])) ∧ Below w.heap.size w w' := by
  rcases h with h | h | ⟨h, h'⟩
  all_goals
    go_enter Tryz.func155, Tryz.ntmps155
    go_wp2
    go_ret
    exact ⟨rfl, Below.refl _ _⟩
theorem put_1 (c : Int) (w : World) (h0 : 0 ≤ c) (h1 : c < 128) :
    Calls Tryz.prog 155 #[.int .i64 c] w fun e w' => e = .returned (.string (strOfNums [c])) ∧ Below w.heap.size w w' := by
  have hk := conv_new w [c] 1 rfl
  simp only [List.map_cons, List.map_nil] at hk
  go_enter Tryz.func155, Tryz.ntmps155
  go_wp2
  go_ret
  exact ⟨rfl, (Below.refl _ _).alloc (Nat.le_refl _) _⟩
theorem put_2 (c : Int) (w : World) (h0 : 128 ≤ c) (h1 : c < 2048) :
    Calls Tryz.prog 155 #[.int .i64 c] w fun e w' => e = .returned (.string (strOfNums [192 + c / 64, 128 + c % 64])) ∧ Below w.heap.size w w' := by
  have hk := conv_new w [192 + c / 64, 128 + c % 64] 2 rfl
  simp only [List.map_cons, List.map_nil] at hk
  have e : bits .or .i64 192 (c / 64) % 256 = 192 + c / 64 := by
    rw [i64_join 5 192 (c / 64) (by omega) (by omega) (by omega) (by omega) (by omega) (by omega)]; omega
  go_enter Tryz.func155, Tryz.ntmps155
  go_wp2_with (go_at_call 213; refine (tail_any _ _).mono ?_; rintro e w' ⟨rfl, rfl⟩)
  go_ret
  exact ⟨rfl, (Below.refl _ _).alloc (Nat.le_refl _) _⟩
theorem put_3 (c : Int) (w : World) (h0 : 2048 ≤ c) (h1 : c < 65536) (h2 : c < 55296 ∨ 57343 < c) :
    Calls Tryz.prog 155 #[.int .i64 c] w fun e w' => e = .returned (.string (strOfNums [224 + c / 4096, 128 + c / 64 % 64, 128 + c % 64])) ∧ Below w.heap.size w w' := by
  have hk := conv_new w [224 + c / 4096, 128 + c / 64 % 64, 128 + c % 64] 3 rfl
  simp only [List.map_cons, List.map_nil] at hk
  have e : bits .or .i64 224 (c / 4096) % 256 = 224 + c / 4096 := by
    rw [i64_join 4 224 (c / 4096) (by omega) (by omega) (by omega) (by omega) (by omega) (by omega)]; omega
  rcases h2 with h2 | h2
  all_goals
    go_enter Tryz.func155, Tryz.ntmps155
    go_wp2_with (go_at_call 213; refine (tail_any _ _).mono ?_; rintro e w' ⟨rfl, rfl⟩)
    go_ret
    exact ⟨rfl, (Below.refl _ _).alloc (Nat.le_refl _) _⟩
theorem put_4 (c : Int) (w : World) (h0 : 65536 ≤ c) (h1 : c ≤ 1114111) :
    Calls Tryz.prog 155 #[.int .i64 c] w fun e w' => e = .returned (.string (strOfNums [240 + c / 262144, 128 + c / 4096 % 64, 128 + c / 64 % 64, 128 + c % 64])) ∧ Below w.heap.size w w' := by
  have hk := conv_new w [240 + c / 262144, 128 + c / 4096 % 64, 128 + c / 64 % 64, 128 + c % 64] 4 rfl
  simp only [List.map_cons, List.map_nil] at hk
  have e : bits .or .i64 240 (c / 262144) % 256 = 240 + c / 262144 := by
    rw [i64_join 3 240 (c / 262144) (by omega) (by omega) (by omega) (by omega) (by omega) (by omega)]; omega
  go_enter Tryz.func155, Tryz.ntmps155
  go_wp2_with (go_at_call 213; refine (tail_any _ _).mono ?_; rintro e w' ⟨rfl, rfl⟩)
  go_ret
  exact ⟨rfl, (Below.refl _ _).alloc (Nat.le_refl _) _⟩
theorem put_any (c : Int) (w : World) :
    Calls Tryz.prog 155 #[.int .i64 c] w fun e w' => e = .returned (.string (strOfNums (putN c))) ∧ Below w.heap.size w w' := by
  unfold putN
  by_cases h : c < 0 ∨ 1114111 < c ∨ 55296 ≤ c ∧ c ≤ 57343
  · rw [if_pos h]; exact put_0 c w h
  · rw [if_neg h]
    by_cases h1 : c < 128
    · rw [if_pos h1]; exact put_1 c w (by omega) h1
    · rw [if_neg h1]
      by_cases h2 : c < 2048
      · rw [if_pos h2]; exact put_2 c w (by omega) h2
      · rw [if_neg h2]
        by_cases h3 : c < 65536
        · rw [if_pos h3]; exact put_3 c w (by omega) h3 (by omega)
        · rw [if_neg h3]; exact put_4 c w (by omega) (by omega)
end Go.Proofs.YtjelneeeijjpiaaGreatDoor.Tx
end
section
namespace Go.Proofs.Lw
def urun (st : Int) : List UInt8 → Int
  | [] => st
  | b :: l => urun (ustep st b.toNat) l
theorem urun_append (st : Int) (l m : List UInt8) : urun st (l ++ m) = urun (urun st l) m := by
  induction l generalizing st with
  | nil => rfl
  | cons b l ih => simp only [List.cons_append, urun]; exact ih _
def uright (l : List UInt8) : Bool := urun 0 l == 0
def ulive (st : Int) : List UInt8 → Nat
  | [] => 0
  | b :: l => if ustep st b.toNat = 8 then 0 else ulive (ustep st b.toNat) l + 1
def Lives (st : Int) : List UInt8 → Prop
  | [] => True
  | b :: l => ustep st b.toNat ≠ 8 ∧ Lives (ustep st b.toNat) l
theorem ustep_dead (b : UInt8) : ustep 8 b.toNat = 8 := by
  simp [ustep, unext]
theorem urun_dead (l : List UInt8) : urun 8 l = 8 := by
  induction l with
  | nil => rfl
  | cons b l ih => rw [urun, ustep_dead, ih]
theorem take_snoc (s : ByteArray) (k : Nat) (h : k < s.size) : s.data.toList.take (k + 1) = s.data.toList.take k ++ [s[k]] := by
  rw [List.take_succ_eq_append_getElem (by simpa using h)]; rfl
theorem urun_snoc (st : Int) (s : ByteArray) (k : Nat) (h : k < s.size) : urun st (s.data.toList.take (k + 1)) = ustep (urun st (s.data.toList.take k)) s[k].toNat := by
  rw [take_snoc s k h, urun_append]; rfl
theorem drop_cons (s : ByteArray) (k : Nat) (h : k < s.size) : s.data.toList.drop k = s[k] :: s.data.toList.drop (k + 1) := by
  rw [List.drop_eq_getElem_cons (by simpa using h)]; rfl
end Go.Proofs.Lw
end
section
set_option maxRecDepth 100000
namespace Go.Proofs.YtjelneeeijjpiaaGreatDoor.Tx
open Go.RowKit Go.Proofs.Lw
theorem u8_le (b : UInt8) : 0 ≤ (b.toNat : Int) ∧ (b.toNat : Int) ≤ 255 := by have := b.toNat_lt; omega
theorem right_any (s : ByteArray) (w : World) (hs : s.size ≤ maxLen) :
    Calls Tryz.prog 324 #[.string s] w fun e w' => e = .returned (.bool (uright s.data.toList)) ∧ w = w' := by
  unfold maxLen at hs
  go_enter Tryz.func324, Tryz.ntmps324
  go_wp2
  go_loop [3, 7] (fun st i => ∃ k : Nat, k ≤ s.size ∧ st = .int .i64 (urun 0 (s.data.toList.take k)) ∧ i = .int .i64 k) (fun _ i => s.size - (intOf i).toNat)
  case atStart => exact ⟨0, Nat.zero_le _, rfl, rfl⟩
  case round =>
    obtain ⟨k, hk, rfl, rfl⟩ := hrel
    by_cases hlt : k < s.size
    · have hb := u8_le s[k]
      have HS := Lib.hid (urun_snoc 0 s k hlt)
      go_wp2_with (go_at_call 164; refine (step_any _ _ _ (by omega) (by omega)).mono ?_; rintro e w' ⟨rfl, rfl⟩)
      go_round
      case rel => exact ⟨k + 1, by omega, by rw [HS.out], by go_num⟩
      case measure => simp [intOf]; omega
    · have HS : Hid (urun 0 (s.data.toList.take k) = urun 0 s.data.toList) := Lib.hid (by rw [List.take_of_length_le (by simp; omega)])
      go_wp2
      go_ret
      exact ⟨by show Ending.returned (.bool (urun 0 (s.data.toList.take k) == 0)) = _; rw [HS.out]; rfl, rfl⟩
end Go.Proofs.YtjelneeeijjpiaaGreatDoor.Tx
end
section
namespace Go.Proofs.Lw
def ufirstC (b : Int) : Int := if b < 128 then b else if b < 224 then b % 32 else if b < 240 then b % 16 else b % 8
def uscalS (st c : Int) (i : Nat) : List UInt8 → Int × Nat
  | [] => (0, 0)
  | b :: l =>
    if ustep st b.toNat = 8 then (0, 0)
    else
      let c' : Int := if 0 < i then c * 64 + (b.toNat : Int) % 64 else ufirstC b.toNat
      if ustep st b.toNat = 0 then (c', i + 1) else uscalS (ustep st b.toNat) c' (i + 1) l
def uscal (l : List UInt8) : Int × Nat := uscalS 0 0 0 l
def UInv (k : Nat) (st c : Int) : Prop :=
  (k = 0 ∧ st = 0 ∧ c = 0) ∨ (k = 1 ∧ 1 ≤ st ∧ st ≤ 7 ∧ 0 ≤ c ∧ c < 64) ∨ (k = 2 ∧ (st = 1 ∨ st = 2) ∧ 0 ≤ c ∧ c < 4096) ∨ (k = 3 ∧ st = 1 ∧ 0 ≤ c ∧ c < 262144)
theorem UInv.bd {k : Nat} {st c : Int} (h : UInv k st c) : 0 ≤ c ∧ c < 262144 ∧ k ≤ 3 := by unfold UInv at h; omega
theorem UInv.pos {k : Nat} {st c : Int} (h : UInv k st c) (hk : k ≠ 0) : 1 ≤ st ∧ st ≤ 7 := by unfold UInv at h; omega
theorem UInv.zero {k : Nat} {st c : Int} (h : UInv k st c) (hk : k = 0) : st = 0 ∧ c = 0 := by unfold UInv at h; omega
theorem ufirst_range (b : Int) : 0 ≤ ufirst b ∧ ufirst b ≤ 8 := by unfold ufirst; (repeat' split) <;> omega
theorem ufirstC_range (b : Int) (h1 : ufirst b ≠ 0) : 0 ≤ ufirstC b ∧ ufirstC b < 64 := by
  unfold ufirstC
  by_cases h2 : b < 128
  · exact absurd (by unfold ufirst; rw [if_pos h2]) h1
  · rw [if_neg h2]; (repeat' split) <;> omega
theorem UInv.step0 (b : Int) (h8 : ustep 0 b ≠ 8) (h0 : ustep 0 b ≠ 0) : UInv 1 (ustep 0 b) (ufirstC b) := by
  have e : ustep 0 b = ufirst b := by simp [ustep]
  rw [e] at h8 h0 ⊢
  have := ufirst_range b
  have := ufirstC_range b h0
  unfold UInv; omega
theorem UInv.step {k : Nat} {st c : Int} (h : UInv k st c) (hk : k ≠ 0) (b : Int) (h8 : ustep st b ≠ 8) (h0 : ustep st b ≠ 0) : UInv (k + 1) (ustep st b) (c * 64 + b % 64) := by
  have e : ustep st b = unext st := by
    have := h.pos hk
    unfold ustep at *; rw [if_neg (by omega)] at *; split
    · rename_i hh; rw [if_pos hh] at h8; exact absurd rfl h8
    · rfl
  rw [e] at h8 h0 ⊢
  clear e
  unfold UInv at *
  rcases h with h | ⟨h1, h2, h3, h4, h5⟩ | ⟨h1, h2, h3, h4⟩ | ⟨h1, h2, h3, h4⟩
  · omega
  · have hs : st = 1 ∨ st = 2 ∨ st = 3 ∨ st = 4 ∨ st = 5 ∨ st = 6 ∨ st = 7 := by omega
    rcases hs with rfl | rfl | rfl | rfl | rfl | rfl | rfl <;> simp [unext] at h8 h0 ⊢ <;> omega
  · rcases h2 with rfl | rfl <;> simp [unext] at h8 h0 ⊢ <;> omega
  · subst h2; simp [unext] at h0
theorem ustep0_hi (b : Int) (h8 : ustep 0 b ≠ 8) (hlo : ¬ b < 128) : 194 ≤ b ∧ ustep 0 b ≠ 0 := by
  have e : ustep 0 b = ufirst b := by simp [ustep]
  rw [e] at h8 ⊢
  unfold ufirst at h8 ⊢
  rw [if_neg hlo] at h8 ⊢
  constructor
  · by_cases hh : 194 ≤ b
    · exact hh
    · exfalso; apply h8
      repeat rw [if_neg (by omega)]
  · (repeat' split) <;> omega
theorem ustep0_lo (b : Int) (hlo : b < 128) : ustep 0 b = 0 := by
  have e : ustep 0 b = ufirst b := by simp [ustep]
  rw [e, ufirst, if_pos hlo]
theorem uscalS_nil (st c : Int) (i : Nat) : uscalS st c i [] = (0, 0) := rfl
theorem uscalS_cons (st c : Int) (i : Nat) (b : UInt8) (l : List UInt8) : uscalS st c i (b :: l) =
    if ustep st b.toNat = 8 then (0, 0)
    else if ustep st b.toNat = 0 then (if 0 < i then c * 64 + (b.toNat : Int) % 64 else ufirstC b.toNat, i + 1)
    else uscalS (ustep st b.toNat) (if 0 < i then c * 64 + (b.toNat : Int) % 64 else ufirstC b.toNat) (i + 1) l := rfl
end Go.Proofs.Lw
end
section
set_option maxRecDepth 100000
namespace Go.Proofs.YtjelneeeijjpiaaGreatDoor.Tx
open Go.RowKit Go.Proofs.Lw
theorem i64_and_pow (n : Int) (k m : Nat) (hk : (BitVec.ofInt 64 (m : Int)).toNat = 2 ^ k - 1) (hm : 2 ^ k = m + 1) (h0 : 0 ≤ n) (h1 : n < 9223372036854775808) : bits .and .i64 n (m : Int) = n % ((m + 1 : Nat) : Int) := by
  obtain ⟨a, rfl⟩ := Int.eq_ofNat_of_zero_le h0
  have key : (BitVec.ofInt 64 (a : Int) &&& BitVec.ofInt 64 (m : Int)).toNat = a % 2 ^ k := by
    rw [BitVec.toNat_and, ofInt_64 _ (by omega), hk, Nat.and_two_pow_sub_one_eq_mod]
  show IntKind.i64.wrap ((BitVec.ofInt 64 (a : Int) &&& BitVec.ofInt 64 (m : Int)).toNat : Nat) = _
  rw [key, IntKind.wrap_i64, hm]
  have : a % (m + 1) ≤ a := Nat.mod_le _ _
  have e : ((a : Nat) : Int) % ((m + 1 : Nat) : Int) = ((a % (m + 1) : Nat) : Int) := (Int.natCast_emod _ _).symm
  rw [e]
  omega
theorem lead_to (b n : Int) (w : World) (h0 : 0 ≤ b) (h1 : b ≤ 255) (h : Hid (ulead b = n)) :
    Calls Tryz.prog 328 #[.int .u8 b] w fun e w' => e = .returned (.int .i64 n) ∧ w = w' := by
  rw [← h.out]; exact lead_any b w h0 h1
set_option maxRecDepth 100000 in
theorem scalar_any (s : ByteArray) (w : World) (hs : s.size ≤ maxLen) :
    Calls Tryz.prog 280 #[.string s] w fun e w' => e = .returned (.tuple #[.int .i64 (uscal s.data.toList).1, .int .i64 ((uscal s.data.toList).2 : Nat)]) ∧ w = w' := by
  unfold maxLen at hs
  go_enter Tryz.func280, Tryz.ntmps280
  go_wp2
  go_loop [4, 5, 10] (fun st c i => ∃ (k : Nat) (st' c' : Int), k ≤ s.size ∧ UInv k st' c' ∧ uscal s.data.toList = uscalS st' c' k (s.data.toList.drop k) ∧ st = .int .i64 st' ∧ c = .int .i64 c' ∧ i = .int .i64 k) (fun _ _ i => s.size - (intOf i).toNat)
  case atStart => exact ⟨0, 0, 0, Nat.zero_le _, .inl ⟨rfl, rfl, rfl⟩, rfl, rfl, rfl, rfl⟩
  case round =>
    obtain ⟨k, st', c', hk, hi, hu, rfl, rfl, rfl⟩ := hrel
    obtain ⟨c0, c1, k3⟩ := hi.bd
    have HI := Lib.hid hi
    have HU := Lib.hid hu
    clear hi hu
    by_cases hlt : k < s.size
    · have hb := u8_le s[k]
      have HD := Lib.hid (drop_cons s k hlt)
      by_cases h8 : ustep st' s[k].toNat = 8
      · have HE : Hid (uscal s.data.toList = (0, 0)) := Lib.hid (by rw [HU.out, HD.out, uscalS_cons, if_pos h8])
        go_wp2_with (go_at_call 164; refine (step_any _ _ _ (by omega) (by omega)).mono ?_; rintro e w' ⟨rfl, rfl⟩)
        go_ret2
        exact ⟨by rw [HE.out]; rfl, rfl⟩
      · have h8' : (ustep st' s[k].toNat == 8) = false := beq_eq_false_iff_ne.2 h8
        have H8 := Lib.hid h8
        clear h8
        by_cases hk0 : k = 0
        · subst hk0
          obtain ⟨rfl, rfl⟩ := HI.out.zero rfl
          have h80 := H8.out
          by_cases hlo : (s[0].toNat : Int) < 128
          · have h0 : Hid (ustep 0 s[0].toNat = 0) := Lib.hid (ustep0_lo _ hlo)
            have hc : ustep 0 (s[0].toNat : Int) = 0 := h0.out
            have HE : Hid (uscal s.data.toList = ((s[0].toNat : Int), 1)) := Lib.hid (by
              rw [HU.out, HD.out, uscalS_cons, if_neg H8.out, if_pos h0.out, if_neg (by omega)]; simp [ufirstC, hlo])
            clear h80
            go_wp2_with (go_at_call 164; refine (step_any _ _ _ (by omega) (by omega)).mono ?_; rintro e w' ⟨rfl, rfl⟩)
            go_ret2
            exact ⟨by rw [HE.out]; rfl, rfl⟩
          · have h0 : (ustep 0 (s[0].toNat : Int) == 0) = false := by
              rw [beq_eq_false_iff_ne]; unfold ustep ufirst; rw [if_pos rfl, if_neg hlo]; (repeat' split) <;> omega
            have hge : 194 ≤ (s[0].toNat : Int) := (ustep0_hi _ h80 hlo).1
            have H0 : Hid (¬ ustep 0 (s[0].toNat : Int) = 0) := Lib.hid (beq_eq_false_iff_ne.1 h0)
            have HN : Hid (uscal s.data.toList = uscalS (ustep 0 s[0].toNat) (ufirstC s[0].toNat) 1 (s.data.toList.drop 1)) := Lib.hid (by
              rw [HU.out, HD.out, uscalS_cons, if_neg H8.out, if_neg H0.out, if_neg (by omega)])
            have HI1 := Lib.hid (UInv.step0 _ H8.out H0.out)
            clear h80
            by_cases hA : (s[0].toNat : Int) < 224
            · have HL : Hid (ulead s[0].toNat = 1) := Lib.hid (by unfold ulead; rw [if_neg (by omega), if_neg (by omega)])
              have HC : Hid (ufirstC s[0].toNat = (s[0].toNat : Int) % 32) := Lib.hid (by unfold ufirstC; rw [if_neg hlo, if_pos hA])
              have ea : bits .and .i64 (s[0].toNat : Int) 31 = (s[0].toNat : Int) % 32 := i64_and_pow _ 5 31 (by decide) (by decide) (by omega) (by omega)
              go_wp2_with (first | (go_at_call 164; refine (step_any _ _ _ (by omega) (by omega)).mono ?_; rintro e w' ⟨rfl, rfl⟩) | (go_at_call 328; refine (lead_to _ _ _ (by omega) (by omega) HL).mono ?_; rintro e w' ⟨rfl, rfl⟩))
              go_round
              case rel => exact ⟨1, _, _, by omega, HI1.out, HN.out, rfl, by rw [HC.out], rfl⟩
              case measure => exact Nat.sub_lt_sub_left hlt (Nat.zero_lt_one)
            · by_cases hB : (s[0].toNat : Int) < 240
              · have HL : Hid (ulead s[0].toNat = 2) := Lib.hid (by unfold ulead; rw [if_neg (by omega), if_pos (by omega)])
                have HC : Hid (ufirstC s[0].toNat = (s[0].toNat : Int) % 16) := Lib.hid (by unfold ufirstC; rw [if_neg hlo, if_neg hA, if_pos hB])
                have ea : bits .and .i64 (s[0].toNat : Int) 15 = (s[0].toNat : Int) % 16 := i64_and_pow _ 4 15 (by decide) (by decide) (by omega) (by omega)
                go_wp2_with (first | (go_at_call 164; refine (step_any _ _ _ (by omega) (by omega)).mono ?_; rintro e w' ⟨rfl, rfl⟩) | (go_at_call 328; refine (lead_to _ _ _ (by omega) (by omega) HL).mono ?_; rintro e w' ⟨rfl, rfl⟩))
                go_round
                case rel => exact ⟨1, _, _, by omega, HI1.out, HN.out, rfl, by rw [HC.out], rfl⟩
                case measure => exact Nat.sub_lt_sub_left hlt (Nat.zero_lt_one)
              · have HL : Hid (ulead s[0].toNat = 3) := Lib.hid (by unfold ulead; rw [if_pos (by omega)])
                have HC : Hid (ufirstC s[0].toNat = (s[0].toNat : Int) % 8) := Lib.hid (by unfold ufirstC; rw [if_neg hlo, if_neg hA, if_neg hB])
                have ea : bits .and .i64 (s[0].toNat : Int) 7 = (s[0].toNat : Int) % 8 := i64_and_pow _ 3 7 (by decide) (by decide) (by omega) (by omega)
                go_wp2_with (first | (go_at_call 164; refine (step_any _ _ _ (by omega) (by omega)).mono ?_; rintro e w' ⟨rfl, rfl⟩) | (go_at_call 328; refine (lead_to _ _ _ (by omega) (by omega) HL).mono ?_; rintro e w' ⟨rfl, rfl⟩))
                go_round
                case rel => exact ⟨1, _, _, by omega, HI1.out, HN.out, rfl, by rw [HC.out], rfl⟩
                case measure => exact Nat.sub_lt_sub_left hlt (Nat.zero_lt_one)
        · have hk1 : (0 : Int) < (k : Int) := by omega
          have ea := i64_and63 (s[k].toNat : Int)
          have eo : bits .or .i64 (c' * 64) ((s[k].toNat : Int) % 64) = c' * 64 + (s[k].toNat : Int) % 64 :=
            i64_join 6 _ _ (by omega) (by omega) (by omega) (by omega) (by omega) (by omega)
          cases h0 : (ustep st' s[k].toNat == 0)
          · have H0 : Hid (¬ ustep st' (s[k].toNat : Int) = 0) := Lib.hid (beq_eq_false_iff_ne.1 h0)
            have HN : Hid (uscal s.data.toList = uscalS (ustep st' s[k].toNat) (c' * 64 + (s[k].toNat : Int) % 64) (k + 1) (s.data.toList.drop (k + 1))) := Lib.hid (by
              rw [HU.out, HD.out, uscalS_cons, if_neg H8.out, if_neg H0.out, if_pos (by omega)])
            have HI1 := Lib.hid (UInv.step HI.out hk0 _ H8.out H0.out)
            go_wp2_with (go_at_call 164; refine (step_any _ _ _ (by omega) (by omega)).mono ?_; rintro e w' ⟨rfl, rfl⟩)
            go_round
            case rel => exact ⟨k + 1, _, _, by omega, HI1.out, HN.out, rfl, rfl, by go_num⟩
            case measure => simp [intOf]; omega
          · have H0 : Hid (ustep st' (s[k].toNat : Int) = 0) := Lib.hid (beq_iff_eq.1 h0)
            have HE : Hid (uscal s.data.toList = (c' * 64 + (s[k].toNat : Int) % 64, k + 1)) := Lib.hid (by
              rw [HU.out, HD.out, uscalS_cons, if_neg H8.out, if_pos H0.out, if_pos (by omega)])
            go_wp2_with (go_at_call 164; refine (step_any _ _ _ (by omega) (by omega)).mono ?_; rintro e w' ⟨rfl, rfl⟩)
            go_ret2
            exact ⟨by rw [HE.out]; rfl, rfl⟩
    · have HE : Hid (uscal s.data.toList = (0, 0)) := Lib.hid (by
        rw [HU.out, List.drop_of_length_le (by simp; omega)]; rfl)
      go_wp2
      go_ret2
      exact ⟨by rw [HE.out]; rfl, rfl⟩
end Go.Proofs.YtjelneeeijjpiaaGreatDoor.Tx
end
section
namespace Go.Proofs.Lw
theorem ustep_1 (b : Int) : ustep 1 b = if b < 128 ∨ 191 < b then 8 else 0 := rfl
theorem ustep_2 (b : Int) : ustep 2 b = if b < 128 ∨ 191 < b then 8 else 1 := rfl
theorem ustep_3 (b : Int) : ustep 3 b = if b < 128 ∨ 191 < b then 8 else 2 := rfl
theorem ustep_4 (b : Int) : ustep 4 b = if b < 160 ∨ 191 < b then 8 else 1 := rfl
theorem ustep_5 (b : Int) : ustep 5 b = if b < 128 ∨ 159 < b then 8 else 1 := rfl
theorem ustep_6 (b : Int) : ustep 6 b = if b < 144 ∨ 191 < b then 8 else 2 := rfl
theorem ustep_7 (b : Int) : ustep 7 b = if b < 128 ∨ 143 < b then 8 else 2 := rfl
theorem ustep_0 (b : Int) : ustep 0 b = ufirst b := rfl
theorem S1 (c : Int) (i : Nat) (b : UInt8) (l : List UInt8) : uscalS 1 c (i + 1) (b :: l) = if 128 ≤ (b.toNat : Int) ∧ (b.toNat : Int) ≤ 191 then (c * 64 + (b.toNat : Int) % 64, i + 2) else (0, 0) := by
  rw [uscalS_cons, ustep_1]
  by_cases h : 128 ≤ (b.toNat : Int) ∧ (b.toNat : Int) ≤ 191
  · rw [if_pos h, if_neg (by omega : ¬ ((b.toNat : Int) < 128 ∨ 191 < (b.toNat : Int)))]; simp
  · rw [if_neg h, if_pos (by omega : ((b.toNat : Int) < 128 ∨ 191 < (b.toNat : Int)))]; simp
theorem Sgo (st n lo hi c : Int) (i : Nat) (b : UInt8) (l : List UInt8) (h : ∀ x, ustep st x = if x < lo ∨ hi < x then 8 else n) (hn : n ≠ 8) (hn0 : n ≠ 0) :
    uscalS st c (i + 1) (b :: l) = if lo ≤ (b.toNat : Int) ∧ (b.toNat : Int) ≤ hi then uscalS n (c * 64 + (b.toNat : Int) % 64) (i + 2) l else (0, 0) := by
  rw [uscalS_cons, h]
  by_cases h : lo ≤ (b.toNat : Int) ∧ (b.toNat : Int) ≤ hi
  · rw [if_pos h, if_neg (by omega : ¬ ((b.toNat : Int) < lo ∨ hi < (b.toNat : Int))), if_neg hn, if_neg hn0]; simp
  · rw [if_neg h, if_pos (by omega : ((b.toNat : Int) < lo ∨ hi < (b.toNat : Int)))]; simp
theorem Sbeg (n : Int) (b : UInt8) (l : List UInt8) (h : ufirst b.toNat = n) (hn : n ≠ 8) (hn0 : n ≠ 0) : uscal (b :: l) = uscalS n (ufirstC b.toNat) 1 l := by
  rw [uscal, uscalS_cons, ustep_0, h, if_neg hn, if_neg hn0, if_neg (Nat.lt_irrefl 0)]
theorem Sdead (b : UInt8) (l : List UInt8) (h : ufirst b.toNat = 8) : uscal (b :: l) = (0, 0) := by
  rw [uscal, uscalS_cons, ustep_0, h]; rfl
theorem f_dead (b : Int) (h : 128 ≤ b ∧ b < 194 ∨ 245 ≤ b) : ufirst b = 8 := by
  unfold ufirst
  rcases h with h | h <;> (repeat rw [if_neg (by omega)])
theorem f_1 (b : Int) (h : 194 ≤ b ∧ b < 224) : ufirst b = 1 := by unfold ufirst; (repeat' split) <;> omega
theorem f_2 (b : Int) (h : 225 ≤ b ∧ b < 240 ∧ b ≠ 237) : ufirst b = 2 := by unfold ufirst; (repeat' split) <;> omega
theorem f_3 (b : Int) (h : 241 ≤ b ∧ b < 244) : ufirst b = 3 := by unfold ufirst; (repeat' split) <;> omega
theorem U_0 (b : UInt8) (l : List UInt8) (h : (b.toNat : Int) < 128) : uscal (b :: l) = ((b.toNat : Int), 1) := by
  rw [uscal, uscalS_cons, ustep_0, show ufirst (b.toNat : Int) = 0 from by unfold ufirst; rw [if_pos h]]
  simp [ufirstC, h]
theorem U_bad (b : UInt8) (l : List UInt8) (h : 128 ≤ (b.toNat : Int) ∧ (b.toNat : Int) < 194 ∨ 245 ≤ (b.toNat : Int)) : uscal (b :: l) = (0, 0) := Sdead b l (f_dead _ h)
theorem U_2 (b0 b1 : UInt8) (l : List UInt8) (h : 194 ≤ (b0.toNat : Int) ∧ (b0.toNat : Int) < 224) :
    uscal (b0 :: b1 :: l) = if 128 ≤ (b1.toNat : Int) ∧ (b1.toNat : Int) ≤ 191 then ((b0.toNat - 192 : Int) * 64 + (b1.toNat : Int) % 64, 2) else (0, 0) := by
  rw [Sbeg 1 _ _ (f_1 _ h) (by decide) (by decide), S1 _ 0,
    show ufirstC (b0.toNat : Int) = b0.toNat - 192 from by unfold ufirstC; rw [if_neg (by omega), if_pos (by omega)]; omega]
theorem U_2s (b0 : UInt8) (h : 194 ≤ (b0.toNat : Int) ∧ (b0.toNat : Int) < 224) : uscal [b0] = (0, 0) := by
  rw [Sbeg 1 _ _ (f_1 _ h) (by decide) (by decide)]; rfl
def low3 (b : Int) : Int := if b = 224 then 160 else 128
def high3 (b : Int) : Int := if b = 237 then 159 else 191
def low4 (b : Int) : Int := if b = 240 then 144 else 128
def high4 (b : Int) : Int := if b = 244 then 143 else 191
theorem U_3' (b0 : UInt8) (l : List UInt8) (h : 224 ≤ (b0.toNat : Int) ∧ (b0.toNat : Int) < 240) :
    uscal (b0 :: l) = match l with | [] => (0, 0) | b1 :: l => if low3 b0.toNat ≤ (b1.toNat : Int) ∧ (b1.toNat : Int) ≤ high3 b0.toNat then uscalS 1 ((b0.toNat - 224 : Int) * 64 + (b1.toNat : Int) % 64) 2 l else (0, 0) := by
  have e : ufirstC (b0.toNat : Int) = b0.toNat - 224 := by unfold ufirstC; rw [if_neg (by omega), if_neg (by omega), if_pos (by omega)]; omega
  by_cases h4 : (b0.toNat : Int) = 224
  · rw [Sbeg 4 _ _ (by rw [h4]; rfl) (by decide) (by decide), e, low3, high3, if_pos h4, if_neg (by omega)]
    cases l with | nil => rfl | cons b1 l => exact Sgo 4 1 160 191 _ 0 b1 l ustep_4 (by decide) (by decide)
  · by_cases h5 : (b0.toNat : Int) = 237
    · rw [Sbeg 5 _ _ (by rw [h5]; rfl) (by decide) (by decide), e, low3, high3, if_neg h4, if_pos h5]
      cases l with | nil => rfl | cons b1 l => exact Sgo 5 1 128 159 _ 0 b1 l ustep_5 (by decide) (by decide)
    · rw [Sbeg 2 _ _ (f_2 _ (by omega)) (by decide) (by decide), e, low3, high3, if_neg h4, if_neg h5]
      cases l with | nil => rfl | cons b1 l => exact Sgo 2 1 128 191 _ 0 b1 l ustep_2 (by decide) (by decide)
theorem U_3 (b0 b1 b2 : UInt8) (l : List UInt8) (h : 224 ≤ (b0.toNat : Int) ∧ (b0.toNat : Int) < 240) :
    uscal (b0 :: b1 :: b2 :: l) = if (low3 b0.toNat ≤ (b1.toNat : Int) ∧ (b1.toNat : Int) ≤ high3 b0.toNat) ∧ 128 ≤ (b2.toNat : Int) ∧ (b2.toNat : Int) ≤ 191 then (((b0.toNat - 224 : Int) * 64 + (b1.toNat : Int) % 64) * 64 + (b2.toNat : Int) % 64, 3) else (0, 0) := by
  rw [U_3' _ _ h]
  simp only
  rw [S1 _ 1]
  by_cases h1 : low3 b0.toNat ≤ (b1.toNat : Int) ∧ (b1.toNat : Int) ≤ high3 b0.toNat
  · rw [if_pos h1]; simp only [h1, true_and, and_self]
  · rw [if_neg h1, if_neg (fun h => h1 h.1)]
theorem U_3s (b0 : UInt8) (l : List UInt8) (h : 224 ≤ (b0.toNat : Int) ∧ (b0.toNat : Int) < 240) (hl : l.length < 2) : uscal (b0 :: l) = (0, 0) := by
  rw [U_3' _ _ h]
  match l, hl with
  | [], _ => rfl
  | [b1], _ => simp [uscalS_nil]
theorem U_4' (b0 : UInt8) (l : List UInt8) (h : 240 ≤ (b0.toNat : Int) ∧ (b0.toNat : Int) < 245) :
    uscal (b0 :: l) = match l with | [] => (0, 0) | b1 :: l => if low4 b0.toNat ≤ (b1.toNat : Int) ∧ (b1.toNat : Int) ≤ high4 b0.toNat then uscalS 2 ((b0.toNat - 240 : Int) * 64 + (b1.toNat : Int) % 64) 2 l else (0, 0) := by
  have e : ufirstC (b0.toNat : Int) = b0.toNat - 240 := by unfold ufirstC; rw [if_neg (by omega), if_neg (by omega), if_neg (by omega)]; omega
  by_cases h4 : (b0.toNat : Int) = 240
  · rw [Sbeg 6 _ _ (by rw [h4]; rfl) (by decide) (by decide), e, low4, high4, if_pos h4, if_neg (by omega)]
    cases l with | nil => rfl | cons b1 l => exact Sgo 6 2 144 191 _ 0 b1 l ustep_6 (by decide) (by decide)
  · by_cases h5 : (b0.toNat : Int) = 244
    · rw [Sbeg 7 _ _ (by rw [h5]; rfl) (by decide) (by decide), e, low4, high4, if_neg h4, if_pos h5]
      cases l with | nil => rfl | cons b1 l => exact Sgo 7 2 128 143 _ 0 b1 l ustep_7 (by decide) (by decide)
    · rw [Sbeg 3 _ _ (f_3 _ (by omega)) (by decide) (by decide), e, low4, high4, if_neg h4, if_neg h5]
      cases l with | nil => rfl | cons b1 l => exact Sgo 3 2 128 191 _ 0 b1 l ustep_3 (by decide) (by decide)
theorem U_4 (b0 b1 b2 b3 : UInt8) (l : List UInt8) (h : 240 ≤ (b0.toNat : Int) ∧ (b0.toNat : Int) < 245) :
    uscal (b0 :: b1 :: b2 :: b3 :: l) = if (low4 b0.toNat ≤ (b1.toNat : Int) ∧ (b1.toNat : Int) ≤ high4 b0.toNat) ∧ (128 ≤ (b2.toNat : Int) ∧ (b2.toNat : Int) ≤ 191) ∧ 128 ≤ (b3.toNat : Int) ∧ (b3.toNat : Int) ≤ 191 then ((((b0.toNat - 240 : Int) * 64 + (b1.toNat : Int) % 64) * 64 + (b2.toNat : Int) % 64) * 64 + (b3.toNat : Int) % 64, 4) else (0, 0) := by
  rw [U_4' _ _ h]
  simp only
  rw [Sgo 2 1 128 191 _ 1 b2 _ ustep_2 (by decide) (by decide), S1 _ 2]
  by_cases h1 : low4 b0.toNat ≤ (b1.toNat : Int) ∧ (b1.toNat : Int) ≤ high4 b0.toNat
  · rw [if_pos h1]
    by_cases h2 : 128 ≤ (b2.toNat : Int) ∧ (b2.toNat : Int) ≤ 191
    · rw [if_pos h2]; simp only [h1, h2, true_and, and_self]
    · rw [if_neg h2, if_neg (fun h => h2 h.2.1)]
  · rw [if_neg h1, if_neg (fun h => h1 h.1)]
theorem U_4s (b0 : UInt8) (l : List UInt8) (h : 240 ≤ (b0.toNat : Int) ∧ (b0.toNat : Int) < 245) (hl : l.length < 3) : uscal (b0 :: l) = (0, 0) := by
  rw [U_4' _ _ h]
  match l, hl with
  | [], _ => rfl
  | [b1], _ => simp [uscalS_nil]
  | [b1, b2], _ => simp only; rw [Sgo 2 1 128 191 _ 1 b2 _ ustep_2 (by decide) (by decide)]; simp [uscalS_nil]
def nums (l : List UInt8) : List Int := l.map fun b => (b.toNat : Int)
theorem ofNat_nums (l : List UInt8) : (nums l).map (fun n => UInt8.ofNat n.toNat) = l := by
  induction l with
  | nil => rfl
  | cons b l ih => simp only [nums, List.map_cons, Int.toNat_natCast, UInt8.ofNat_toNat] at ih ⊢; rw [ih]
theorem nums_ofNat (ns : List Int) (h : ∀ n ∈ ns, 0 ≤ n ∧ n ≤ 255) : nums (ns.map (fun n => UInt8.ofNat n.toNat)) = ns := by
  induction ns with
  | nil => rfl
  | cons n ns ih =>
    have h1 := h n (by simp)
    have e : ((UInt8.ofNat n.toNat).toNat : Int) = n := by
      rw [UInt8.toNat_ofNat', Nat.mod_eq_of_lt (by omega)]; omega
    simp only [nums, List.map_cons] at ih ⊢
    rw [ih (fun m hm => h m (by simp [hm])), e]
theorem putN_bytes (c : Int) : ∀ n ∈ putN c, 0 ≤ n ∧ n ≤ 255 := by
  intro n hn
  unfold putN at hn
  (repeat' split at hn) <;> simp at hn <;> omega
def putL (c : Int) : List UInt8 := (putN c).map fun n => UInt8.ofNat n.toNat
theorem putL_eq_iff (c : Int) (l : List UInt8) : putL c = l ↔ putN c = nums l := by
  constructor
  · intro h; rw [← h, putL, nums_ofNat _ (putN_bytes c)]
  · intro h; rw [putL, h, ofNat_nums]
theorem H_2 (b0 b1 : UInt8) (h : 192 ≤ (b0.toNat : Int) ∧ (b0.toNat : Int) < 224) :
    putN ((b0.toNat - 192 : Int) * 64 + (b1.toNat : Int) % 64) = nums [b0, b1] ↔ 194 ≤ (b0.toNat : Int) ∧ 128 ≤ (b1.toNat : Int) ∧ (b1.toNat : Int) ≤ 191 := by
  have := b1.toNat_lt
  unfold putN nums
  (repeat' split) <;> simp <;> omega
theorem H_3 (b0 b1 b2 : UInt8) (h : 224 ≤ (b0.toNat : Int) ∧ (b0.toNat : Int) < 240) :
    putN (((b0.toNat - 224 : Int) * 64 + (b1.toNat : Int) % 64) * 64 + (b2.toNat : Int) % 64) = nums [b0, b1, b2] ↔ (low3 b0.toNat ≤ (b1.toNat : Int) ∧ (b1.toNat : Int) ≤ high3 b0.toNat) ∧ 128 ≤ (b2.toNat : Int) ∧ (b2.toNat : Int) ≤ 191 := by
  have := b1.toNat_lt
  have := b2.toNat_lt
  unfold putN nums low3 high3
  (repeat' split) <;> simp <;> omega
theorem H_4 (b0 b1 b2 b3 : UInt8) (h : 240 ≤ (b0.toNat : Int) ∧ (b0.toNat : Int) < 248) :
    putN ((((b0.toNat - 240 : Int) * 64 + (b1.toNat : Int) % 64) * 64 + (b2.toNat : Int) % 64) * 64 + (b3.toNat : Int) % 64) = nums [b0, b1, b2, b3] ↔ (b0.toNat : Int) < 245 ∧ (low4 b0.toNat ≤ (b1.toNat : Int) ∧ (b1.toNat : Int) ≤ high4 b0.toNat) ∧ (128 ≤ (b2.toNat : Int) ∧ (b2.toNat : Int) ≤ 191) ∧ 128 ≤ (b3.toNat : Int) ∧ (b3.toNat : Int) ≤ 191 := by
  have := b1.toNat_lt
  have := b2.toNat_lt
  have := b3.toNat_lt
  unfold putN nums low4 high4
  (repeat' split) <;> simp <;> omega
end Go.Proofs.Lw
end
