/- The walks of the reference's Put and Scalar. -/
import Derived.Test.YtlckidgeooiboaaUW5
import Derived.Deep.RegionWith
import Derived.Handy
namespace Go.Proofs.Ytlckidgeooiboaa
open Go.RowKit Go.Proofs.Lw

theorem rput_0 (c : Int) (w : World) (h : c < 0 ∨ 1114111 < c ∨ 55296 ≤ c ∧ c ≤ 57343) :
    Calls Try.prog 24 #[.int .i64 c] w fun e w' => e = .returned (.string (strOfNums [])) ∧ Below w.heap.size w w' := by
  rcases h with h | h | ⟨h, h'⟩
  all_goals
    go_enter Try.func24, Try.ntmps24
    go_wp2
    go_ret
    exact ⟨rfl, Below.refl _ _⟩

theorem rput_1 (c : Int) (w : World) (h0 : 0 ≤ c) (h1 : c < 128) :
    Calls Try.prog 24 #[.int .i64 c] w fun e w' => e = .returned (.string (strOfNums [c])) ∧ Below w.heap.size w w' := by
  have hk := conv_new w [c] 1 rfl
  simp only [List.map_cons, List.map_nil] at hk
  go_enter Try.func24, Try.ntmps24
  go_wp2
  go_ret
  exact ⟨rfl, (Below.refl _ _).alloc (Nat.le_refl _) _⟩

theorem rput_2 (c : Int) (w : World) (h0 : 128 ≤ c) (h1 : c < 2048) :
    Calls Try.prog 24 #[.int .i64 c] w fun e w' => e = .returned (.string (strOfNums [192 + c / 64, 128 + c % 64])) ∧ Below w.heap.size w w' := by
  have hk := conv_new w [192 + c / 64, 128 + c % 64] 2 rfl
  simp only [List.map_cons, List.map_nil] at hk
  go_enter Try.func24, Try.ntmps24
  go_wp2
  go_ret
  exact ⟨rfl, (Below.refl _ _).alloc (Nat.le_refl _) _⟩

theorem rput_3 (c : Int) (w : World) (h0 : 2048 ≤ c) (h1 : c < 65536) (h2 : c < 55296 ∨ 57343 < c) :
    Calls Try.prog 24 #[.int .i64 c] w fun e w' => e = .returned (.string (strOfNums [224 + c / 4096, 128 + c / 64 % 64, 128 + c % 64])) ∧ Below w.heap.size w w' := by
  have hk := conv_new w [224 + c / 4096, 128 + c / 64 % 64, 128 + c % 64] 3 rfl
  simp only [List.map_cons, List.map_nil] at hk
  rcases h2 with h2 | h2
  all_goals
    go_enter Try.func24, Try.ntmps24
    go_wp2
    go_ret
    exact ⟨rfl, (Below.refl _ _).alloc (Nat.le_refl _) _⟩

theorem rput_4 (c : Int) (w : World) (h0 : 65536 ≤ c) (h1 : c ≤ 1114111) :
    Calls Try.prog 24 #[.int .i64 c] w fun e w' => e = .returned (.string (strOfNums [240 + c / 262144, 128 + c / 4096 % 64, 128 + c / 64 % 64, 128 + c % 64])) ∧ Below w.heap.size w w' := by
  have hk := conv_new w [240 + c / 262144, 128 + c / 4096 % 64, 128 + c / 64 % 64, 128 + c % 64] 4 rfl
  simp only [List.map_cons, List.map_nil] at hk
  go_enter Try.func24, Try.ntmps24
  go_wp2
  go_ret
  exact ⟨rfl, (Below.refl _ _).alloc (Nat.le_refl _) _⟩

theorem rput_any (c : Int) (w : World) :
    Calls Try.prog 24 #[.int .i64 c] w fun e w' => e = .returned (.string (strOfNums (putN c))) ∧ Below w.heap.size w w' := by
  unfold putN
  by_cases h : c < 0 ∨ 1114111 < c ∨ 55296 ≤ c ∧ c ≤ 57343
  · rw [if_pos h]; exact rput_0 c w h
  · rw [if_neg h]
    by_cases h1 : c < 128
    · rw [if_pos h1]; exact rput_1 c w (by omega) h1
    · rw [if_neg h1]
      by_cases h2 : c < 2048
      · rw [if_pos h2]; exact rput_2 c w (by omega) h2
      · rw [if_neg h2]
        by_cases h3 : c < 65536
        · rw [if_pos h3]; exact rput_3 c w (by omega) h3 (by omega)
        · rw [if_neg h3]; exact rput_4 c w (by omega) (by omega)

theorem bdrew {w w1 : World} (h : Below w.drew.heap.size w.drew w1) : Below w.heap.size w w1 := (Below.refl _ _).drew.trans h
/-- do the bytes of a number stand at the beginning? -/
def hit (c : Int) (s : ByteArray) (n : Nat) : Bool := (strOfNums (putN c)).toList == (s.extract 0 n).toList
def rfin (s : ByteArray) (c : Int) (n : Nat) : Int × Nat := if hit c s n then (c, n) else (0, 0)
abbrev byt (s : ByteArray) (i : Nat) : Int := ((s.data.toList.getD i 0).toNat : Int)
theorem byt_eq (s : ByteArray) (i : Nat) (h : i < s.size) : byt s i = (s[i].toNat : Int) := by
  have h' : i < s.data.toList.length := by simpa using h
  simp [byt, List.getD, List.getElem?_eq_getElem h']; rfl

set_option maxRecDepth 100000 in
theorem rscal_none (s : ByteArray) (w : World) (h0 : s.size = 0) :
    Calls Try.prog 28 #[.string s] w fun e w' => e = .returned (.tuple #[.int .i64 0, .int .i64 0]) ∧ Below w.heap.size w w' := by
  have h1 : ¬ 0 < s.size := by omega
  have H := Lib.hid h0
  clear h0
  go_enter Try.func28, Try.ntmps28
  go_wp2
  go_ret2
  exact ⟨rfl, Below.refl _ _⟩

set_option maxRecDepth 100000 in
theorem rscal_1 (s : ByteArray) (w : World) (h0 : 0 < s.size) (hb : (s[0].toNat : Int) < 128) :
    Calls Try.prog 28 #[.string s] w fun e w' => e = .returned (.tuple #[.int .i64 (s[0].toNat : Int), .int .i64 1]) ∧ Below w.heap.size w w' := by
  have hbb := u8_le s[0]
  go_enter Try.func28, Try.ntmps28
  go_wp2
  go_ret2
  exact ⟨rfl, Below.refl _ _⟩

set_option maxRecDepth 100000 in
theorem rscal_no (s : ByteArray) (w : World) (h0 : 0 < s.size) (hb : 248 ≤ (s[0].toNat : Int) ∨ (128 ≤ (s[0].toNat : Int) ∧ (s[0].toNat : Int) < 192)) :
    Calls Try.prog 28 #[.string s] w fun e w' => e = .returned (.tuple #[.int .i64 0, .int .i64 0]) ∧ Below w.heap.size w w' := by
  have hbb := u8_le s[0]
  rcases hb with hb | ⟨hb, hb'⟩
  all_goals
    go_enter Try.func28, Try.ntmps28
    go_wp2
    go_ret2
    exact ⟨rfl, Below.refl _ _⟩

set_option maxRecDepth 100000 in
set_option maxHeartbeats 1000000 in
theorem rscal_short (s : ByteArray) (w : World) (h0 : 0 < s.size) (hb : (192 ≤ (s[0].toNat : Int) ∧ (s[0].toNat : Int) < 224 ∧ s.size < 2) ∨ (224 ≤ (s[0].toNat : Int) ∧ (s[0].toNat : Int) < 240 ∧ s.size < 3) ∨ (240 ≤ (s[0].toNat : Int) ∧ (s[0].toNat : Int) < 248 ∧ s.size < 4)) :
    Calls Try.prog 28 #[.string s] w fun e w' => e = .returned (.tuple #[.int .i64 0, .int .i64 0]) ∧ Below w.heap.size w w' := by
  have hbb := u8_le s[0]
  rcases hb with ⟨hb, hb', h2⟩ | ⟨hb, hb', h2⟩ | ⟨hb, hb', h2⟩
  all_goals
    go_enter Try.func28, Try.ntmps28
    go_wp2
    go_ret2
    exact ⟨rfl, Below.refl _ _⟩

set_option maxRecDepth 100000 in
set_option maxHeartbeats 1000000 in
theorem rscal_2 (s : ByteArray) (w : World) (h2 : 2 ≤ s.size) (hb : (192 : Int) ≤ (s[0].toNat : Int)) (hb1 : (s[0].toNat : Int) < (224 : Int)) (C : Int)
    (hC : Hid (((s[0].toNat : Int) - (192 : Int)) * (64 : Int) + (s[1].toNat : Int) % (64 : Int) = C)) :
    Calls Try.prog 28 #[.string s] w fun e w' => e = .returned (.tuple #[.int .i64 (rfin s C 2).1, .int .i64 ((rfin s C 2).2 : Nat)]) ∧ Below w.heap.size w w' := by
  have hbb := u8_le s[0]
  have hbb1 := u8_le s[1]
  go_enter Try.func28, Try.ntmps28
  go_wp2
  go_rounds 2
  rw [hC.out]
  go_region_with (go_at_call 24; refine (rput_any _ _).mono ?_; rintro e w1 ⟨rfl, hb1⟩)
  generalize hg : ((strOfNums (putN C)).toList == (s.extract 0 2).toList) = g
  have hg' : hit C s 2 = g := hg
  have HG : Hid (rfin s C 2 = if g then (C, 2) else (0, 0)) := Lib.hid (by rw [rfin, hg'])
  clear hg hg'
  cases g
  · go_wp2
    go_ret2
    exact ⟨by rw [HG.out]; rfl, bdrew (by assumption)⟩
  · go_wp2
    go_ret2
    exact ⟨by rw [HG.out]; rfl, bdrew (by assumption)⟩

set_option maxRecDepth 100000 in
set_option maxHeartbeats 1000000 in
theorem rscal_3 (s : ByteArray) (w : World) (h2 : 3 ≤ s.size) (hb : (224 : Int) ≤ (s[0].toNat : Int)) (hb1 : (s[0].toNat : Int) < (240 : Int)) (C : Int)
    (hC : Hid ((((s[0].toNat : Int) - (224 : Int)) * (64 : Int) + (s[1].toNat : Int) % (64 : Int)) * (64 : Int) + (s[2].toNat : Int) % (64 : Int) = C)) :
    Calls Try.prog 28 #[.string s] w fun e w' => e = .returned (.tuple #[.int .i64 (rfin s C 3).1, .int .i64 ((rfin s C 3).2 : Nat)]) ∧ Below w.heap.size w w' := by
  have hbb := u8_le s[0]
  have hbb1 := u8_le s[1]
  have hbb2 := u8_le s[2]
  go_enter Try.func28, Try.ntmps28
  go_wp2
  go_rounds 3
  rw [hC.out]
  go_region_with (go_at_call 24; refine (rput_any _ _).mono ?_; rintro e w1 ⟨rfl, hb1⟩)
  generalize hg : ((strOfNums (putN C)).toList == (s.extract 0 3).toList) = g
  have hg' : hit C s 3 = g := hg
  have HG : Hid (rfin s C 3 = if g then (C, 3) else (0, 0)) := Lib.hid (by rw [rfin, hg'])
  clear hg hg'
  cases g
  · go_wp2
    go_ret2
    exact ⟨by rw [HG.out]; rfl, bdrew (by assumption)⟩
  · go_wp2
    go_ret2
    exact ⟨by rw [HG.out]; rfl, bdrew (by assumption)⟩

set_option maxRecDepth 100000 in
set_option maxHeartbeats 1000000 in
theorem rscal_4 (s : ByteArray) (w : World) (h2 : 4 ≤ s.size) (hb : (240 : Int) ≤ (s[0].toNat : Int)) (hb1 : (s[0].toNat : Int) < (248 : Int)) (C : Int)
    (hC : Hid (((((s[0].toNat : Int) - (240 : Int)) * (64 : Int) + (s[1].toNat : Int) % (64 : Int)) * (64 : Int) + (s[2].toNat : Int) % (64 : Int)) * (64 : Int) + (s[3].toNat : Int) % (64 : Int) = C)) :
    Calls Try.prog 28 #[.string s] w fun e w' => e = .returned (.tuple #[.int .i64 (rfin s C 4).1, .int .i64 ((rfin s C 4).2 : Nat)]) ∧ Below w.heap.size w w' := by
  have hbb := u8_le s[0]
  have hbb1 := u8_le s[1]
  have hbb2 := u8_le s[2]
  have hbb3 := u8_le s[3]
  go_enter Try.func28, Try.ntmps28
  go_wp2
  go_rounds 4
  rw [hC.out]
  go_region_with (go_at_call 24; refine (rput_any _ _).mono ?_; rintro e w1 ⟨rfl, hb1⟩)
  generalize hg : ((strOfNums (putN C)).toList == (s.extract 0 4).toList) = g
  have hg' : hit C s 4 = g := hg
  have HG : Hid (rfin s C 4 = if g then (C, 4) else (0, 0)) := Lib.hid (by rw [rfin, hg'])
  clear hg hg'
  cases g
  · go_wp2
    go_ret2
    exact ⟨by rw [HG.out]; rfl, bdrew (by assumption)⟩
  · go_wp2
    go_ret2
    exact ⟨by rw [HG.out]; rfl, bdrew (by assumption)⟩
end Go.Proofs.Ytlckidgeooiboaa
