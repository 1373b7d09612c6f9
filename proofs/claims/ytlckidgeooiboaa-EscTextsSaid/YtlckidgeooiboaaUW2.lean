/- The walks of lead, tail and Put. -/
import Derived.Test.YtlckidgeooiboaaUW1
import Derived.Below
import Derived.Laws.BytesArg
import Derived.Laws.Bits128
import Derived.Laws.BitsAllLaws
namespace Go.Proofs.Ytlckidgeooiboaa
open Go.RowKit Go.Proofs.Lw

theorem i64_and63 (n : Int) : bits .and .i64 n 63 = n % 64 := by
  have h127 : (BitVec.ofInt 64 63).toNat = 2 ^ 6 - 1 := by decide
  have key : (BitVec.ofInt 64 n &&& BitVec.ofInt 64 63).toNat = (n % ((2 ^ 64 : Nat) : Int)).toNat % 2 ^ 6 := by
    rw [BitVec.toNat_and, BitVec.toNat_ofInt, h127, Nat.and_two_pow_sub_one_eq_mod]
  show IntKind.i64.wrap ((BitVec.ofInt 64 n &&& BitVec.ofInt 64 63).toNat : Nat) = n % 64
  rw [key, IntKind.wrap_i64]
  omega
theorem ofInt_64 (a : Nat) (ha : a < 18446744073709551616) : (BitVec.ofInt 64 (a : Int)).toNat = a := by
  rw [BitVec.toNat_ofInt]; omega
theorem i64_or_nat (a b : Nat) (ha : a < 9223372036854775808) (hb : b < 9223372036854775808) : bits .or .i64 (a : Int) (b : Int) = ((a ||| b : Nat) : Int) := by
  have h : a ||| b < 2 ^ 63 := Nat.or_lt_two_pow ha hb
  show IntKind.i64.wrap ((BitVec.ofInt 64 (a : Int) ||| BitVec.ofInt 64 (b : Int)).toNat : Nat) = _
  rw [BitVec.toNat_or, ofInt_64 _ (by omega), ofInt_64 _ (by omega), IntKind.wrap_i64]
  omega
theorem i64_and_nat (a b : Nat) (ha : a < 9223372036854775808) (hb : b < 9223372036854775808) : bits .and .i64 (a : Int) (b : Int) = ((a &&& b : Nat) : Int) := by
  have h : a &&& b < 2 ^ 63 := Nat.and_lt_two_pow _ hb
  show IntKind.i64.wrap ((BitVec.ofInt 64 (a : Int) &&& BitVec.ofInt 64 (b : Int)).toNat : Nat) = _
  rw [BitVec.toNat_and, ofInt_64 _ (by omega), ofInt_64 _ (by omega), IntKind.wrap_i64]
  omega
theorem i64_join (i : Nat) (x y : Int) (hx0 : 0 ≤ x) (hx : x < 9223372036854775808) (h0 : 0 ≤ y) (hi : y < 2 ^ i) (hy : y < 9223372036854775808) (hm : x % 2 ^ i = 0) : bits .or .i64 x y = x + y := by
  obtain ⟨a, rfl⟩ := Int.eq_ofNat_of_zero_le hx0
  obtain ⟨b, rfl⟩ := Int.eq_ofNat_of_zero_le h0
  have h1 : b < 2 ^ i := by exact_mod_cast hi
  have h2 : a % 2 ^ i = 0 := by exact_mod_cast hm
  rw [i64_or_nat _ _ (by omega) (by omega), nat_join i a b h2 h1]; rfl

theorem lead_any (b : Int) (w : World) (h0 : 0 ≤ b) (h1 : b ≤ 255) :
    Calls Try.prog 44 #[.int .u8 b] w fun e w' => e = .returned (.int .i64 (ulead b)) ∧ w = w' := by
  go_enter Try.func44, Try.ntmps44
  go_wp2
  all_goals
    go_ret
    refine ⟨ret_i64 ?_, rfl⟩
    go_light
    unfold ulead
    (repeat' split) <;> first | rfl | omega

theorem tail_any (c : Int) (w : World) :
    Calls Try.prog 32 #[.int .i64 c] w fun e w' => e = .returned (.int .u8 (128 + c % 64)) ∧ w = w' := by
  have e : bits .or .i64 128 (c % 64) % 256 = 128 + c % 64 := by
    rw [i64_join 6 128 (c % 64) (by omega) (by omega) (by omega) (by omega) (by omega) (by omega)]; omega
  have e0 := i64_and63 c
  go_enter Try.func32, Try.ntmps32
  go_wp2
  go_ret
  exact ⟨by show Ending.returned (.int .u8 (bits .or .i64 128 (c % 64) % 256)) = _; rw [e], rfl⟩

theorem conv_new (w : World) (xs : List Int) (n : Nat) (hn : xs.length = n) :
    (convert 25 9 (.slice (some ⟨w.heap.size, 0, none⟩) n n)).run Try.prog (w.alloc (.cells (xs.map (Value.int .u8)).toArray 5)) = .ok (.string (strOfNums xs)) (w.alloc (.cells (xs.map (Value.int .u8)).toArray 5)) := by
  refine run_convert_bytes_arg _ 25 5 Try.underlying25 Try.underlying5 w.heap.size 0 n n xs hn ?_ 9 Try.underlying9
  intro i hi
  have hi' : i < xs.length := by omega
  rw [World.cell?_alloc_new]
  simp [List.getD, List.getElem?_eq_getElem hi']

theorem ret_str {a b : ByteArray} (h : a = b) : Ending.returned (.string a) = .returned (.string b) := by rw [h]

theorem put_0 (c : Int) (w : World) (h : c < 0 ∨ 1114111 < c ∨ 55296 ≤ c ∧ c ≤ 57343) :
    Calls Try.prog 21 #[.int .i64 c] w fun e w' => e = .returned (.string (strOfNums [])) ∧ Below w.heap.size w w' := by
  rcases h with h | h | ⟨h, h'⟩
  all_goals
    go_enter Try.func21, Try.ntmps21
    go_wp2
    go_ret
    exact ⟨rfl, Below.refl _ _⟩

theorem put_1 (c : Int) (w : World) (h0 : 0 ≤ c) (h1 : c < 128) :
    Calls Try.prog 21 #[.int .i64 c] w fun e w' => e = .returned (.string (strOfNums [c])) ∧ Below w.heap.size w w' := by
  have hk := conv_new w [c] 1 rfl
  simp only [List.map_cons, List.map_nil] at hk
  go_enter Try.func21, Try.ntmps21
  go_wp2
  go_ret
  exact ⟨rfl, (Below.refl _ _).alloc (Nat.le_refl _) _⟩

theorem put_2 (c : Int) (w : World) (h0 : 128 ≤ c) (h1 : c < 2048) :
    Calls Try.prog 21 #[.int .i64 c] w fun e w' => e = .returned (.string (strOfNums [192 + c / 64, 128 + c % 64])) ∧ Below w.heap.size w w' := by
  have hk := conv_new w [192 + c / 64, 128 + c % 64] 2 rfl
  simp only [List.map_cons, List.map_nil] at hk
  have e : bits .or .i64 192 (c / 64) % 256 = 192 + c / 64 := by
    rw [i64_join 5 192 (c / 64) (by omega) (by omega) (by omega) (by omega) (by omega) (by omega)]; omega
  go_enter Try.func21, Try.ntmps21
  go_wp2_with (go_at_call 32; refine (tail_any _ _).mono ?_; rintro e w' ⟨rfl, rfl⟩)
  go_ret
  exact ⟨rfl, (Below.refl _ _).alloc (Nat.le_refl _) _⟩

theorem put_3 (c : Int) (w : World) (h0 : 2048 ≤ c) (h1 : c < 65536) (h2 : c < 55296 ∨ 57343 < c) :
    Calls Try.prog 21 #[.int .i64 c] w fun e w' => e = .returned (.string (strOfNums [224 + c / 4096, 128 + c / 64 % 64, 128 + c % 64])) ∧ Below w.heap.size w w' := by
  have hk := conv_new w [224 + c / 4096, 128 + c / 64 % 64, 128 + c % 64] 3 rfl
  simp only [List.map_cons, List.map_nil] at hk
  have e : bits .or .i64 224 (c / 4096) % 256 = 224 + c / 4096 := by
    rw [i64_join 4 224 (c / 4096) (by omega) (by omega) (by omega) (by omega) (by omega) (by omega)]; omega
  rcases h2 with h2 | h2
  all_goals
    go_enter Try.func21, Try.ntmps21
    go_wp2_with (go_at_call 32; refine (tail_any _ _).mono ?_; rintro e w' ⟨rfl, rfl⟩)
    go_ret
    exact ⟨rfl, (Below.refl _ _).alloc (Nat.le_refl _) _⟩

theorem put_4 (c : Int) (w : World) (h0 : 65536 ≤ c) (h1 : c ≤ 1114111) :
    Calls Try.prog 21 #[.int .i64 c] w fun e w' => e = .returned (.string (strOfNums [240 + c / 262144, 128 + c / 4096 % 64, 128 + c / 64 % 64, 128 + c % 64])) ∧ Below w.heap.size w w' := by
  have hk := conv_new w [240 + c / 262144, 128 + c / 4096 % 64, 128 + c / 64 % 64, 128 + c % 64] 4 rfl
  simp only [List.map_cons, List.map_nil] at hk
  have e : bits .or .i64 240 (c / 262144) % 256 = 240 + c / 262144 := by
    rw [i64_join 3 240 (c / 262144) (by omega) (by omega) (by omega) (by omega) (by omega) (by omega)]; omega
  go_enter Try.func21, Try.ntmps21
  go_wp2_with (go_at_call 32; refine (tail_any _ _).mono ?_; rintro e w' ⟨rfl, rfl⟩)
  go_ret
  exact ⟨rfl, (Below.refl _ _).alloc (Nat.le_refl _) _⟩

theorem put_any (c : Int) (w : World) :
    Calls Try.prog 21 #[.int .i64 c] w fun e w' => e = .returned (.string (strOfNums (putN c))) ∧ Below w.heap.size w w' := by
  unfold putN
  by_cases h : c < 0 ∨ 1114111 < c ∨ 55296 ≤ c ∧ c ≤ 57343
  · rw [if_pos h]; exact put_0 c w h
  · rw [if_neg h]
    by_cases h1 : c < 128
    · rw [if_pos h1]; exact put_1 c w (by omega) h1
    · rw [if_neg h1]
      by_cases h2 : c < 2048
      · rw [if_pos h2]; exact put_2 c w (by omega) h2
      · rw [if_neg h2]
        by_cases h3 : c < 65536
        · rw [if_pos h3]; exact put_3 c w (by omega) h3 (by omega)
        · rw [if_neg h3]; exact put_4 c w (by omega) (by omega)
end Go.Proofs.Ytlckidgeooiboaa
