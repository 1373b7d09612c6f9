/- The walks of wide, take, number. -/
import Derived.Test.YtdbdmpdfjhmfhaaIL1
import Derived.Test.YtdbdmpdfjhmfhaaIPlain4
import Derived.Laws.BitsAllLaws
namespace Go.Proofs.Ytdbdmpdfjhmfhaa
open Go.RowKit Go.Proofs.Lx

theorem wide_val (h k : Nat) (b : UInt8) (hh : h < 256 ^ k) (hk : k < 8) : bits .or .u64 (h : Int) (IntKind.u64.wrap ((b.toNat : Int) * 2 ^ (8 * k))) = ((h + 256 ^ k * b.toNat : Nat) : Int) := by
  have hb := b.toNat_lt
  have e256 : 256 ^ k = 2 ^ (8 * k) := by rw [Nat.pow_mul]
  have hlt : b.toNat * 2 ^ (8 * k) < 18446744073709551616 := by
    have h1 : 2 ^ (8 * k) ≤ 2 ^ 56 := Nat.pow_le_pow_right (by omega) (by omega)
    have h2 : b.toNat * 2 ^ (8 * k) ≤ 255 * 2 ^ 56 := Nat.mul_le_mul (by omega) h1
    have h3 : (255 * 2 ^ 56 : Nat) < 18446744073709551616 := by decide
    omega
  have e1 : ((b.toNat : Int) * 2 ^ (8 * k)) = ((b.toNat * 2 ^ (8 * k) : Nat) : Int) := by
    rw [Int.natCast_mul, Int.natCast_pow]; rfl
  have hh64 : h < 18446744073709551616 := by
    have h1 : 256 ^ k ≤ 256 ^ 8 := Nat.pow_le_pow_right (by omega) (by omega)
    have h3 : (256 ^ 8 : Nat) = 18446744073709551616 := by decide
    omega
  rw [e1, wrapU _ hlt, u64_or_nat _ _ hh64 hlt, Nat.or_comm, nat_join (8 * k) _ _ (Nat.mul_mod_left _ _) (by rw [← e256]; exact hh), e256, Nat.mul_comm b.toNat, Nat.add_comm]

theorem wide_any (s : ByteArray) (w : World) (hs : s.size ≤ 8) :
    Calls Try.prog 23 #[.string s] w fun e w' => e = .returned (.int .u64 (wideTo s.data.toList : Nat)) ∧ w = w' := by
  go_enter Try.func23, Try.ntmps23
  go_wp2_with fail
  go_loop [3, 7] (fun h i => ∃ k : Nat, k ≤ s.size ∧ h = .int .u64 (wideTo (s.data.toList.take k) : Nat) ∧ i = .int .i64 k) (fun _ i => s.size - (intOf i).toNat)
  case atStart => exact ⟨0, Nat.zero_le _, rfl, rfl⟩
  case round =>
    obtain ⟨k, hk, rfl, rfl⟩ := hrel
    by_cases hlt : k < s.size
    · have HS := Lib.hid (wideTo_snoc s k hlt)
      obtain ⟨h, hh⟩ : ∃ h, h = wideTo (s.data.toList.take k) := ⟨_, rfl⟩
      rw [← hh]
      have hhl : h < 256 ^ k := by
        have := wideTo_lt (s.data.toList.take k)
        have e : (s.data.toList.take k).length = k := by simp; omega
        rw [e] at this; rw [hh]; exact this
      have HV := Lib.hid (wide_val h k s[k] hhl (by omega))
      have HH := Lib.hid hh
      have HW := Lib.hid (wrapU s[k].toNat (by have := s[k].toNat_lt; omega))
      clear hh hhl
      go_wp2_with fail
      go_round
      case rel => go_light; exact ⟨k + 1, by omega, by rw [HS.out, ← HH.out, HW.out, HV.out], by go_num⟩
      case measure => go_light; simp [intOf]; omega
    · have HS : Hid (wideTo (s.data.toList.take k) = wideTo s.data.toList) := Lib.hid (by rw [List.take_of_length_le (by simp; omega)])
      go_wp2_with fail
      go_ret
      exact ⟨by rw [← HS.out]; rfl, rfl⟩

/-- the reader in block g -/
def RD (w : World) (g : Nat) (s : ByteArray) (bad : Bool) : Prop := w.heap[g]? = some (.cells #[.string s, .bool bad] 57 (0, 0))
theorem RD.cells {w : World} {g : Nat} {s : ByteArray} {bad : Bool} (h : RD w g s bad) : w.cell? ⟨g, 0, none⟩ = some (.string s) ∧ w.cell? ⟨g, 1, none⟩ = some (.bool bad) ∧ w.frozen? ⟨g, 0, none⟩ = false ∧ w.frozen? ⟨g, 1, none⟩ = false := by
  unfold RD at h
  refine ⟨by simp [World.cell?, h], by simp [World.cell?, h], by simp [World.frozen?, h], by simp [World.frozen?, h]⟩
theorem RD.set0 {w : World} {g : Nat} {s : ByteArray} {bad : Bool} (h : RD w g s bad) (s' : ByteArray) : RD (w.setCell ⟨g, 0, none⟩ (.string s')) g s' bad := by
  unfold RD at *; simp [World.setCell, Array.getElem?_modify, h]
theorem RD.set1 {w : World} {g : Nat} {s : ByteArray} {bad : Bool} (h : RD w g s bad) (b' : Bool) : RD (w.setCell ⟨g, 1, none⟩ (.bool b')) g s b' := by
  unfold RD at *; simp [World.setCell, Array.getElem?_modify, h]
theorem set_grown (w : World) (g o : Nat) (v : Value) : w.grownBy (w.setCell ⟨g, o, none⟩ v) (some g) :=
  ⟨rfl, rfl, rfl, by simp [World.setCell], fun k _ hk => Below.heap_setCell _ _ _ _ (fun e => hk (by simp at e; rw [e]))⟩
theorem grown_refl (w : World) (g : Option Nat) : w.grownBy w g := ⟨rfl, rfl, rfl, Nat.le_refl _, fun _ _ _ => rfl⟩
theorem grown_trans {a b c : World} {g : Option Nat} (h : a.grownBy b g) (k : b.grownBy c g) : a.grownBy c g :=
  ⟨k.os.trans h.os, k.tape.trans h.tape, k.output.trans h.output, Nat.le_trans h.size k.size, fun i hi hg => (k.block i (Nat.lt_of_lt_of_le hi h.size) hg).trans (h.block i hi hg)⟩

theorem take_any (g n : Nat) (s : ByteArray) (bad : Bool) (w : World) (hR : Hid (RD w g s bad)) (hn : n ≤ 2000000) (_hs : s.size ≤ 10000) (T : ByteArray) (s' : ByteArray) (bad' : Bool) (hT : Hid (takeP n s bad = (T, s', bad'))) :
    Calls Try.prog 24 #[.pointer (some ⟨g, 0, none⟩), .int .i64 (n : Int)] w fun e w' => e = .returned (.string T) ∧ RD w' g s' bad' ∧ w.grownBy w' (some g) := by
  obtain ⟨c0, c1, f0, f1⟩ := hR.out.cells
  have hT' := hT.out
  by_cases hlt : s.size < n
  · rw [takeP, if_pos (.inr hlt)] at hT'
    simp only [Prod.mk.injEq] at hT'
    obtain ⟨rfl, rfl, rfl⟩ := hT'
    clear hT
    go_enter Try.func24, Try.ntmps24
    go_wp2_with fail
    go_ret
    exact ⟨rfl, hR.out.set1 true, set_grown _ _ _ _⟩
  · cases bad
    · rw [takeP, if_neg (by simp; omega)] at hT'
      simp only [Prod.mk.injEq] at hT'
      obtain ⟨rfl, rfl, rfl⟩ := hT'
      clear hT
      go_enter Try.func24, Try.ntmps24
      go_wp2_with fail
      go_ret
      exact ⟨rfl, hR.out.set0 _, set_grown _ _ _ _⟩
    · rw [takeP, if_pos (.inl rfl)] at hT'
      simp only [Prod.mk.injEq] at hT'
      obtain ⟨rfl, rfl, rfl⟩ := hT'
      clear hT
      go_enter Try.func24, Try.ntmps24
      go_wp2_with fail
      go_ret
      exact ⟨rfl, hR.out, grown_refl _ _⟩

theorem num_any (g most : Nat) (s : ByteArray) (bad : Bool) (w : World) (hR : Hid (RD w g s bad)) (hm : most ≤ 2000000) (hs : s.size ≤ 10000) (N : Nat) (s' : ByteArray) (bad' : Bool) (hT : Hid (numP most s bad = (N, s', bad'))) :
    Calls Try.prog 25 #[.pointer (some ⟨g, 0, none⟩), .int .i64 (most : Int)] w fun e w' => e = .returned (.int .i64 (N : Nat)) ∧ RD w' g s' bad' ∧ w.grownBy w' (some g) := by
  obtain ⟨T, s1, b1, hTk⟩ : ∃ T s1 b1, takeP 8 s bad = (T, s1, b1) := ⟨_, _, _, rfl⟩
  have hT8 : T.size ≤ 8 := by have := (takeP_size 8 s bad).1; rw [hTk] at this; exact this
  have hT' := hT.out
  rw [numP, hTk] at hT'
  have HTk := Lib.hid hTk
  clear hTk hT
  have um := wrapU most (by omega)
  have hwl : wideTo T.data.toList < 18446744073709551616 := by
    have h1 := wideTo_lt T.data.toList
    have h2 : T.data.toList.length ≤ 8 := by simpa using hT8
    have h3 : 256 ^ T.data.toList.length ≤ 256 ^ 8 := Nat.pow_le_pow_right (by omega) h2
    have h4 : (256 ^ 8 : Nat) = 18446744073709551616 := by decide
    omega
  by_cases hgt : wideTo T.data.toList > most
  · rw [if_pos hgt] at hT'
    simp only [Prod.mk.injEq] at hT'
    obtain ⟨rfl, rfl, rfl⟩ := hT'
    go_enter Try.func25, Try.ntmps25
    go_wp2_with fail
    refine (take_any g 8 s bad _ hR (by omega) hs T s1 b1 HTk).mono ?_; rintro e w1 ⟨rfl, h1, h2⟩
    have H1 := Lib.hid h1
    have H2 := Lib.hid h2
    clear h1 h2
    obtain ⟨c0, c1, f0, f1⟩ := H1.out.cells
    go_wp2_with fail
    refine (wide_any _ _ hT8).mono ?_; rintro e w' ⟨rfl, rfl⟩
    go_wp2_with fail
    go_ret
    exact ⟨rfl, H1.out.set1 true, grown_trans H2.out (set_grown _ _ _ _)⟩
  · rw [if_neg hgt] at hT'
    simp only [Prod.mk.injEq] at hT'
    obtain ⟨rfl, rfl, rfl⟩ := hT'
    go_enter Try.func25, Try.ntmps25
    go_wp2_with fail
    refine (take_any g 8 s bad _ hR (by omega) hs T s1 b1 HTk).mono ?_; rintro e w1 ⟨rfl, h1, h2⟩
    have H1 := Lib.hid h1
    have H2 := Lib.hid h2
    clear h1 h2
    go_wp2_with fail
    refine (wide_any _ _ hT8).mono ?_; rintro e w' ⟨rfl, rfl⟩
    go_wp2_with fail
    go_ret
    exact ⟨rfl, H1.out, H2.out⟩
end Go.Proofs.Ytdbdmpdfjhmfhaa
