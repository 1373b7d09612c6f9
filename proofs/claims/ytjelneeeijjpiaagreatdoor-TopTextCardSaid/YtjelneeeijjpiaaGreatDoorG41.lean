/- TopText: walks and plain laws, part 41: lemmas on what the functions that the law comes to compute. -/
import Derived.Test.YtjelneeeijjpiaaGreatDoorG01
import Derived.Deep.RegionWith
import Derived.Handy
import Derived.Lib.Strings
import Derived.Test.YtjelneeeijjpiaaGreatDoorG02
import Derived.Deep.LoopGhost
import Derived.Deep.Light
import Derived.Test.YtjelneeeijjpiaaGreatDoorG40
set_option linter.unusedVariables false
set_option linter.unusedSimpArgs false
section
set_option maxRecDepth 100000
namespace Go.Proofs.YtjelneeeijjpiaaGreatDoor.Tx
open Go.RowKit Go.Proofs.Lw
theorem rput_0 (c : Int) (w : World) (h : c < 0 ∨ 1114111 < c ∨ 55296 ≤ c ∧ c ≤ 57343) :
    Calls Tryz.prog 8 #[.int .i64 c] w fun e w' => e = .returned (.string (strOfNums [])) ∧ Below w.heap.size w w' := by
  rcases h with h | h | ⟨h, h'⟩
  all_goals
    go_enter Tryz.func8, Tryz.ntmps8
    go_wp2
    go_ret
    exact ⟨rfl, Below.refl _ _⟩
theorem rput_1 (c : Int) (w : World) (h0 : 0 ≤ c) (h1 : c < 128) :
    Calls Tryz.prog 8 #[.int .i64 c] w fun e w' => e = .returned (.string (strOfNums [c])) ∧ Below w.heap.size w w' := by
  have hk := conv_new w [c] 1 rfl
  simp only [List.map_cons, List.map_nil] at hk
  go_enter Tryz.func8, Tryz.ntmps8
  go_wp2
  go_ret
  exact ⟨rfl, (Below.refl _ _).alloc (Nat.le_refl _) _⟩
theorem rput_2 (c : Int) (w : World) (h0 : 128 ≤ c) (h1 : c < 2048) :
    Calls Tryz.prog 8 #[.int .i64 c] w fun e w' => e = .returned (.string (strOfNums [192 + c / 64, 128 + c % 64])) ∧ Below w.heap.size w w' := by
  have hk := conv_new w [192 + c / 64, 128 + c % 64] 2 rfl
  simp only [List.map_cons, List.map_nil] at hk
  go_enter Tryz.func8, Tryz.ntmps8
  go_wp2
  go_ret
  exact ⟨rfl, (Below.refl _ _).alloc (Nat.le_refl _) _⟩
theorem rput_3 (c : Int) (w : World) (h0 : 2048 ≤ c) (h1 : c < 65536) (h2 : c < 55296 ∨ 57343 < c) :
    Calls Tryz.prog 8 #[.int .i64 c] w fun e w' => e = .returned (.string (strOfNums [224 + c / 4096, 128 + c / 64 % 64, 128 + c % 64])) ∧ Below w.heap.size w w' := by
  have hk := conv_new w [224 + c / 4096, 128 + c / 64 % 64, 128 + c % 64] 3 rfl
  simp only [List.map_cons, List.map_nil] at hk
  rcases h2 with h2 | h2
  all_goals
    go_enter Tryz.func8, Tryz.ntmps8
    go_wp2
    go_ret
    exact ⟨rfl, (Below.refl _ _).alloc (Nat.le_refl _) _⟩
theorem rput_4 (c : Int) (w : World) (h0 : 65536 ≤ c) (h1 : c ≤ 1114111) :
    Calls Tryz.prog 8 #[.int .i64 c] w fun e w' => e = .returned (.string (strOfNums [240 + c / 262144, 128 + c / 4096 % 64, 128 + c / 64 % 64, 128 + c % 64])) ∧ Below w.heap.size w w' := by
  have hk := conv_new w [240 + c / 262144, 128 + c / 4096 % 64, 128 + c / 64 % 64, 128 + c % 64] 4 rfl
  simp only [List.map_cons, List.map_nil] at hk
  go_enter Tryz.func8, Tryz.ntmps8
  go_wp2
  go_ret
  exact ⟨rfl, (Below.refl _ _).alloc (Nat.le_refl _) _⟩
theorem rput_any (c : Int) (w : World) :
    Calls Tryz.prog 8 #[.int .i64 c] w fun e w' => e = .returned (.string (strOfNums (putN c))) ∧ Below w.heap.size w w' := by
  unfold putN
  by_cases h : c < 0 ∨ 1114111 < c ∨ 55296 ≤ c ∧ c ≤ 57343
  · rw [if_pos h]; exact rput_0 c w h
  · rw [if_neg h]
    by_cases h1 : c < 128
    · rw [if_pos h1]; exact rput_1 c w (by omega) h1
    · rw [if_neg h1]
      by_cases h2 : c < 2048
      · rw [if_pos h2]; exact rput_2 c w (by omega) h2
      · rw [if_neg h2]
        by_cases h3 : c < 65536
        · rw [if_pos h3]; exact rput_3 c w (by omega) h3 (by omega)
        · rw [if_neg h3]; exact rput_4 c w (by omega) (by omega)
theorem bdrew {w w1 : World} (h : Below w.drew.heap.size w.drew w1) : Below w.heap.size w w1 := (Below.refl _ _).drew.trans h
def hit (c : Int) (s : ByteArray) (n : Nat) : Bool := (strOfNums (putN c)).toList == (s.extract 0 n).toList
def rfin (s : ByteArray) (c : Int) (n : Nat) : Int × Nat := if hit c s n then (c, n) else (0, 0)
abbrev byt (s : ByteArray) (i : Nat) : Int := ((s.data.toList.getD i 0).toNat : Int)
theorem byt_eq (s : ByteArray) (i : Nat) (h : i < s.size) : byt s i = (s[i].toNat : Int) := by
  have h' : i < s.data.toList.length := by simpa using h
  simp [byt, List.getD, List.getElem?_eq_getElem h']; rfl
set_option maxRecDepth 100000 in
theorem rscal_none (s : ByteArray) (w : World) (h0 : s.size = 0) :
    Calls Tryz.prog 7 #[.string s] w fun e w' => e = .returned (.tuple #[.int .i64 0, .int .i64 0]) ∧ Below w.heap.size w w' := by
  have h1 : ¬ 0 < s.size := by omega
  have H := Lib.hid h0
  clear h0
  go_enter Tryz.func7, Tryz.ntmps7
  go_wp2
  go_ret2
  exact ⟨rfl, Below.refl _ _⟩
set_option maxRecDepth 100000 in
theorem rscal_1 (s : ByteArray) (w : World) (h0 : 0 < s.size) (hb : (s[0].toNat : Int) < 128) :
    Calls Tryz.prog 7 #[.string s] w fun e w' => e = .returned (.tuple #[.int .i64 (s[0].toNat : Int), .int .i64 1]) ∧ Below w.heap.size w w' := by
  have hbb := u8_le s[0]
  go_enter Tryz.func7, Tryz.ntmps7
  go_wp2
  go_ret2
  exact ⟨rfl, Below.refl _ _⟩
set_option maxRecDepth 100000 in
theorem rscal_no (s : ByteArray) (w : World) (h0 : 0 < s.size) (hb : 248 ≤ (s[0].toNat : Int) ∨ (128 ≤ (s[0].toNat : Int) ∧ (s[0].toNat : Int) < 192)) :
    Calls Tryz.prog 7 #[.string s] w fun e w' => e = .returned (.tuple #[.int .i64 0, .int .i64 0]) ∧ Below w.heap.size w w' := by
  have hbb := u8_le s[0]
  rcases hb with hb | ⟨hb, hb'⟩
  all_goals
    go_enter Tryz.func7, Tryz.ntmps7
    go_wp2
    go_ret2
    exact ⟨rfl, Below.refl _ _⟩
set_option maxRecDepth 100000 in
set_option maxHeartbeats 1000000 in
theorem rscal_short (s : ByteArray) (w : World) (h0 : 0 < s.size) (hb : (192 ≤ (s[0].toNat : Int) ∧ (s[0].toNat : Int) < 224 ∧ s.size < 2) ∨ (224 ≤ (s[0].toNat : Int) ∧ (s[0].toNat : Int) < 240 ∧ s.size < 3) ∨ (240 ≤ (s[0].toNat : Int) ∧ (s[0].toNat : Int) < 248 ∧ s.size < 4)) :
    Calls Tryz.prog 7 #[.string s] w fun e w' => e = .returned (.tuple #[.int .i64 0, .int .i64 0]) ∧ Below w.heap.size w w' := by
  have hbb := u8_le s[0]
  rcases hb with ⟨hb, hb', h2⟩ | ⟨hb, hb', h2⟩ | ⟨hb, hb', h2⟩
  all_goals
    go_enter Tryz.func7, Tryz.ntmps7
    go_wp2
    go_ret2
    exact ⟨rfl, Below.refl _ _⟩
set_option maxRecDepth 100000 in
set_option maxHeartbeats 1000000 in
theorem rscal_2 (s : ByteArray) (w : World) (h2 : 2 ≤ s.size) (hb : (192 : Int) ≤ (s[0].toNat : Int)) (hb1 : (s[0].toNat : Int) < (224 : Int)) (C : Int)
    (hC : Hid (((s[0].toNat : Int) - (192 : Int)) * (64 : Int) + (s[1].toNat : Int) % (64 : Int) = C)) :
    Calls Tryz.prog 7 #[.string s] w fun e w' => e = .returned (.tuple #[.int .i64 (rfin s C 2).1, .int .i64 ((rfin s C 2).2 : Nat)]) ∧ Below w.heap.size w w' := by
  have hbb := u8_le s[0]
  have hbb1 := u8_le s[1]
  go_enter Tryz.func7, Tryz.ntmps7
  go_wp2
  go_rounds 2
  rw [hC.out]
  go_region_with (go_at_call 8; refine (rput_any _ _).mono ?_; rintro e w1 ⟨rfl, hb1⟩)
  generalize hg : ((strOfNums (putN C)).toList == (s.extract 0 2).toList) = g
  have hg' : hit C s 2 = g := hg
  have HG : Hid (rfin s C 2 = if g then (C, 2) else (0, 0)) := Lib.hid (by rw [rfin, hg'])
  clear hg hg'
  cases g
  · go_wp2
    go_ret2
    exact ⟨by rw [HG.out]; rfl, bdrew (by assumption)⟩
  · go_wp2
    go_ret2
    exact ⟨by rw [HG.out]; rfl, bdrew (by assumption)⟩
set_option maxRecDepth 100000 in
set_option maxHeartbeats 1000000 in
theorem rscal_3 (s : ByteArray) (w : World) (h2 : 3 ≤ s.size) (hb : (224 : Int) ≤ (s[0].toNat : Int)) (hb1 : (s[0].toNat : Int) < (240 : Int)) (C : Int)
    (hC : Hid ((((s[0].toNat : Int) - (224 : Int)) * (64 : Int) + (s[1].toNat : Int) % (64 : Int)) * (64 : Int) + (s[2].toNat : Int) % (64 : Int) = C)) :
    Calls Tryz.prog 7 #[.string s] w fun e w' => e = .returned (.tuple #[.int .i64 (rfin s C 3).1, .int .i64 ((rfin s C 3).2 : Nat)]) ∧ Below w.heap.size w w' := by
  have hbb := u8_le s[0]
  have hbb1 := u8_le s[1]
  have hbb2 := u8_le s[2]
  go_enter Tryz.func7, Tryz.ntmps7
  go_wp2
  go_rounds 3
  rw [hC.out]
  go_region_with (go_at_call 8; refine (rput_any _ _).mono ?_; rintro e w1 ⟨rfl, hb1⟩)
  generalize hg : ((strOfNums (putN C)).toList == (s.extract 0 3).toList) = g
  have hg' : hit C s 3 = g := hg
  have HG : Hid (rfin s C 3 = if g then (C, 3) else (0, 0)) := Lib.hid (by rw [rfin, hg'])
  clear hg hg'
  cases g
  · go_wp2
    go_ret2
    exact ⟨by rw [HG.out]; rfl, bdrew (by assumption)⟩
  · go_wp2
    go_ret2
    exact ⟨by rw [HG.out]; rfl, bdrew (by assumption)⟩
set_option maxRecDepth 100000 in
set_option maxHeartbeats 1000000 in
theorem rscal_4 (s : ByteArray) (w : World) (h2 : 4 ≤ s.size) (hb : (240 : Int) ≤ (s[0].toNat : Int)) (hb1 : (s[0].toNat : Int) < (248 : Int)) (C : Int)
    (hC : Hid (((((s[0].toNat : Int) - (240 : Int)) * (64 : Int) + (s[1].toNat : Int) % (64 : Int)) * (64 : Int) + (s[2].toNat : Int) % (64 : Int)) * (64 : Int) + (s[3].toNat : Int) % (64 : Int) = C)) :
    Calls Tryz.prog 7 #[.string s] w fun e w' => e = .returned (.tuple #[.int .i64 (rfin s C 4).1, .int .i64 ((rfin s C 4).2 : Nat)]) ∧ Below w.heap.size w w' := by
  have hbb := u8_le s[0]
  have hbb1 := u8_le s[1]
  have hbb2 := u8_le s[2]
  have hbb3 := u8_le s[3]
  go_enter Tryz.func7, Tryz.ntmps7
  go_wp2
  go_rounds 4
  rw [hC.out]
  go_region_with (go_at_call 8; refine (rput_any _ _).mono ?_; rintro e w1 ⟨rfl, hb1⟩)
  generalize hg : ((strOfNums (putN C)).toList == (s.extract 0 4).toList) = g
  have hg' : hit C s 4 = g := hg
  have HG : Hid (rfin s C 4 = if g then (C, 4) else (0, 0)) := Lib.hid (by rw [rfin, hg'])
  clear hg hg'
  cases g
  · go_wp2
    go_ret2
    exact ⟨by rw [HG.out]; rfl, bdrew (by assumption)⟩
  · go_wp2
    go_ret2
    exact ⟨by rw [HG.out]; rfl, bdrew (by assumption)⟩
end Go.Proofs.YtjelneeeijjpiaaGreatDoor.Tx
end
section
set_option maxRecDepth 100000
namespace Go.Proofs.YtjelneeeijjpiaaGreatDoor.Tx
open Go.RowKit Go.Proofs.Lw
theorem hit_iff (c : Int) (s : ByteArray) (n : Nat) : hit c s n = true ↔ putN c = nums (s.data.toList.take n) := by
  rw [hit, beq_iff_eq, Lib.toList_data, Lib.extract_toList, strOfNums_data]
  simp only [List.drop_zero, Nat.sub_zero]
  exact putL_eq_iff c _
theorem rscalar_any (s : ByteArray) (w : World) :
    Calls Tryz.prog 7 #[.string s] w fun e w' => e = .returned (.tuple #[.int .i64 (uscal s.data.toList).1, .int .i64 ((uscal s.data.toList).2 : Nat)]) ∧ Below w.heap.size w w' := by
  have hsz : s.size = s.data.toList.length := Lib.size_eq s
  by_cases h0 : s.size = 0
  · have e : s.data.toList = [] := List.eq_nil_of_length_eq_zero (by omega)
    rw [e]; exact rscal_none s w h0
  · have h0' : 0 < s.size := by omega
    obtain ⟨b0, t, e⟩ : ∃ b0 t, s.data.toList = b0 :: t := by
      cases h : s.data.toList with
      | nil => rw [h] at hsz; exact absurd hsz h0
      | cons a l => exact ⟨a, l, rfl⟩
    have e0 : s[0] = b0 := by
      have := byt_eq s 0 h0'
      simp only [byt, e, List.getD_cons_zero] at this
      exact (UInt8.toNat_inj.1 (by omega)).symm
    have hb := u8_le b0
    by_cases c1 : (b0.toNat : Int) < 128
    · refine (rscal_1 s w h0' (by rw [e0]; exact c1)).mono fun e' w' h => ?_
      rw [e, U_0 _ _ c1]; rw [e0] at h; exact h
    · by_cases c2 : 248 ≤ (b0.toNat : Int) ∨ (128 ≤ (b0.toNat : Int) ∧ (b0.toNat : Int) < 192)
      · refine (rscal_no s w h0' (by rw [e0]; exact c2)).mono fun e' w' h => ?_
        rw [e, U_bad _ _ (by omega)]; exact h
      · by_cases c3 : (b0.toNat : Int) < 224
        · by_cases hl : s.size < 2
          · refine (rscal_short s w h0' (by rw [e0]; omega)).mono fun e' w' h => ?_
            have et : t = [] := by
              rw [e] at hsz; simp only [List.length_cons] at hsz; exact List.eq_nil_of_length_eq_zero (by omega)
            have : uscal s.data.toList = (0, 0) := by
              rw [e, et]
              by_cases hb2 : 194 ≤ (b0.toNat : Int)
              · exact U_2s b0 ⟨hb2, c3⟩
              · exact U_bad b0 [] (by omega)
            rw [this]; exact h
          · obtain ⟨b1, t', et⟩ : ∃ b1 t', t = b1 :: t' := by
              cases h : t with
              | nil => rw [e, h] at hsz; simp only [List.length_cons, List.length_nil] at hsz; omega
              | cons a l => exact ⟨a, l, rfl⟩
            subst et
            have e1 : s[1] = b1 := by
              have := byt_eq s 1 (by omega)
              simp only [byt, e, List.getD_cons_succ, List.getD_cons_zero] at this
              exact (UInt8.toNat_inj.1 (by omega)).symm
            refine (rscal_2 s w (by omega) (by rw [e0]; omega) (by rw [e0]; omega) _ (Lib.hid rfl)).mono fun e' w' h => ?_
            rw [e0, e1] at h
            have hh := hit_iff (((b0.toNat : Int) - 192) * 64 + (b1.toNat : Int) % 64) s 2
            rw [e, show List.take 2 (b0 :: b1 :: t') = [b0, b1] from rfl, H_2 b0 b1 (by omega)] at hh
            have : uscal s.data.toList = rfin s (((b0.toNat : Int) - 192) * 64 + (b1.toNat : Int) % 64) 2 := by
              rw [e, rfin]
              by_cases hv : 194 ≤ (b0.toNat : Int) ∧ 128 ≤ (b1.toNat : Int) ∧ (b1.toNat : Int) ≤ 191
              · rw [if_pos (hh.2 hv), U_2 _ _ _ ⟨hv.1, c3⟩, if_pos hv.2]
              · rw [if_neg (fun x => hv (hh.1 x))]
                by_cases hb2 : 194 ≤ (b0.toNat : Int)
                · rw [U_2 _ _ _ ⟨hb2, c3⟩, if_neg (fun x => hv ⟨hb2, x⟩)]
                · exact U_bad b0 _ (by omega)
            rw [this]; exact h
        · by_cases c4 : (b0.toNat : Int) < 240
          · by_cases hl : s.size < 3
            · refine (rscal_short s w h0' (by rw [e0]; omega)).mono fun e' w' h => ?_
              rw [e, U_3s b0 t (by omega) (by rw [e] at hsz; simp only [List.length_cons] at hsz; omega)]; exact h
            · obtain ⟨b1, b2, t', et⟩ : ∃ b1 b2 t', t = b1 :: b2 :: t' := by
                match t, e with
                | [], e => rw [e] at hsz; simp only [List.length_cons, List.length_nil] at hsz; omega
                | [a], e => rw [e] at hsz; simp only [List.length_cons, List.length_nil] at hsz; omega
                | a :: b :: l, _ => exact ⟨a, b, l, rfl⟩
              subst et
              have e1 : s[1] = b1 := by
                have := byt_eq s 1 (by omega)
                simp only [byt, e, List.getD_cons_succ, List.getD_cons_zero] at this
                exact (UInt8.toNat_inj.1 (by omega)).symm
              have e2 : s[2] = b2 := by
                have := byt_eq s 2 (by omega)
                simp only [byt, e, List.getD_cons_succ, List.getD_cons_zero] at this
                exact (UInt8.toNat_inj.1 (by omega)).symm
              refine (rscal_3 s w (by omega) (by rw [e0]; omega) (by rw [e0]; omega) _ (Lib.hid rfl)).mono fun e' w' h => ?_
              rw [e0, e1, e2] at h
              have hh := hit_iff ((((b0.toNat : Int) - 224) * 64 + (b1.toNat : Int) % 64) * 64 + (b2.toNat : Int) % 64) s 3
              rw [e, show List.take 3 (b0 :: b1 :: b2 :: t') = [b0, b1, b2] from rfl, H_3 b0 b1 b2 (by omega)] at hh
              have : uscal s.data.toList = rfin s ((((b0.toNat : Int) - 224) * 64 + (b1.toNat : Int) % 64) * 64 + (b2.toNat : Int) % 64) 3 := by
                rw [e, rfin, U_3 _ _ _ _ (by omega)]
                by_cases hv : (low3 b0.toNat ≤ (b1.toNat : Int) ∧ (b1.toNat : Int) ≤ high3 b0.toNat) ∧ 128 ≤ (b2.toNat : Int) ∧ (b2.toNat : Int) ≤ 191
                · rw [if_pos (hh.2 hv), if_pos hv]
                · rw [if_neg (fun x => hv (hh.1 x)), if_neg hv]
              rw [this]; exact h
          · by_cases hl : s.size < 4
            · refine (rscal_short s w h0' (by rw [e0]; omega)).mono fun e' w' h => ?_
              by_cases c5 : (b0.toNat : Int) < 245
              · rw [e, U_4s b0 t (by omega) (by rw [e] at hsz; simp only [List.length_cons] at hsz; omega)]; exact h
              · rw [e, U_bad b0 t (by omega)]; exact h
            · obtain ⟨b1, b2, b3, t', et⟩ : ∃ b1 b2 b3 t', t = b1 :: b2 :: b3 :: t' := by
                match t, e with
                | [], e => rw [e] at hsz; simp only [List.length_cons, List.length_nil] at hsz; omega
                | [a], e => rw [e] at hsz; simp only [List.length_cons, List.length_nil] at hsz; omega
                | [a, b], e => rw [e] at hsz; simp only [List.length_cons, List.length_nil] at hsz; omega
                | a :: b :: c :: l, _ => exact ⟨a, b, c, l, rfl⟩
              subst et
              have e1 : s[1] = b1 := by
                have := byt_eq s 1 (by omega)
                simp only [byt, e, List.getD_cons_succ, List.getD_cons_zero] at this
                exact (UInt8.toNat_inj.1 (by omega)).symm
              have e2 : s[2] = b2 := by
                have := byt_eq s 2 (by omega)
                simp only [byt, e, List.getD_cons_succ, List.getD_cons_zero] at this
                exact (UInt8.toNat_inj.1 (by omega)).symm
              have e3 : s[3] = b3 := by
                have := byt_eq s 3 (by omega)
                simp only [byt, e, List.getD_cons_succ, List.getD_cons_zero] at this
                exact (UInt8.toNat_inj.1 (by omega)).symm
              refine (rscal_4 s w (by omega) (by rw [e0]; omega) (by rw [e0]; omega) _ (Lib.hid rfl)).mono fun e' w' h => ?_
              rw [e0, e1, e2, e3] at h
              have hh := hit_iff (((((b0.toNat : Int) - 240) * 64 + (b1.toNat : Int) % 64) * 64 + (b2.toNat : Int) % 64) * 64 + (b3.toNat : Int) % 64) s 4
              rw [e, show List.take 4 (b0 :: b1 :: b2 :: b3 :: t') = [b0, b1, b2, b3] from rfl, H_4 b0 b1 b2 b3 (by omega)] at hh
              have : uscal s.data.toList = rfin s (((((b0.toNat : Int) - 240) * 64 + (b1.toNat : Int) % 64) * 64 + (b2.toNat : Int) % 64) * 64 + (b3.toNat : Int) % 64) 4 := by
                rw [e, rfin]
                by_cases c5 : (b0.toNat : Int) < 245
                · rw [U_4 _ _ _ _ _ (by omega)]
                  by_cases hv : (low4 b0.toNat ≤ (b1.toNat : Int) ∧ (b1.toNat : Int) ≤ high4 b0.toNat) ∧ (128 ≤ (b2.toNat : Int) ∧ (b2.toNat : Int) ≤ 191) ∧ 128 ≤ (b3.toNat : Int) ∧ (b3.toNat : Int) ≤ 191
                  · rw [if_pos (hh.2 ⟨c5, hv⟩), if_pos hv]
                  · rw [if_neg (fun x => hv (hh.1 x).2), if_neg hv]
                · rw [if_neg (fun x => c5 (hh.1 x).1), U_bad b0 _ (by omega)]
              rw [this]; exact h
end Go.Proofs.YtjelneeeijjpiaaGreatDoor.Tx
end
section
namespace Go.Proofs.Lw
def lowsL : List UInt8 := [128, 160, 144]
def highsL : List UInt8 := [191, 159, 143]
def extB (i k : Nat) : UInt8 := if k % 2 = 0 then lowsL.getD i 0 else highsL.getD i 0
def cand4 (l : List UInt8) (i k : Nat) : List UInt8 := if l.length = 1 then l ++ [extB i k, 128, 128] else l ++ [128, 128, 128]
def rhit (l : List UInt8) (i k m : Nat) : Bool := (uscal ((cand4 l i k).take m)).2 == m
def PHit (l : List UInt8) : Prop := ∃ i k m, i < 3 ∧ k < 3 ∧ l.length < m ∧ m ≤ 4 ∧ rhit l i k m = true
end Go.Proofs.Lw
end
section
set_option maxRecDepth 100000
namespace Go.Proofs.YtjelneeeijjpiaaGreatDoor.Tx
open Go.RowKit Go.Proofs.Lw
theorem rscalar_at (s : ByteArray) (k : Nat) (c : Int) (n : Nat) (w : World) (h : Hid (uscal (s.data.toList.drop k) = (c, n))) :
    Calls Tryz.prog 7 #[.string (s.extract k s.size)] w fun e w' => e = .returned (.tuple #[.int .i64 c, .int .i64 n]) ∧ Below w.heap.size w w' := by
  have := rscalar_any (s.extract k s.size) w
  rw [Lib.extract_data, List.take_of_length_le (by simp), h.out] at this
  exact this
theorem run_split (l : List UInt8) (k : Nat) (h : urun 0 (l.take k) = 0) : urun 0 l = urun 0 (l.drop k) := by
  have := urun_append 0 (l.take k) (l.drop k)
  rw [List.take_append_drop, h] at this; exact this
theorem run_take (l : List UInt8) (k n : Nat) (h : urun 0 (l.take k) = 0) : urun 0 (l.take (k + n)) = urun 0 ((l.drop k).take n) := by
  rw [List.take_add, urun_append, h]
theorem bthen5 {w w1 w2 : World} (h : Below w.heap.size w w1) (k : Below w1.heap.size w1 w2) : Below w.heap.size w w2 := h.trans (k.mono h.size)
set_option maxRecDepth 100000 in
theorem rright_any (s : ByteArray) (w : World) (hs : s.size ≤ maxLen) :
    Calls Tryz.prog 5 #[.string s] w fun e w' => e = .returned (.bool (uright s.data.toList)) ∧ Below w.heap.size w w' := by
  have hsz : Hid (s.size = s.data.toList.length) := Lib.hid (Lib.size_eq s)
  unfold maxLen at hs
  go_enter Tryz.func5, Tryz.ntmps5
  go_wp2_with fail
  go_loopg [3] s.size (fun g v wr => ∃ k : Nat, k ≤ s.size ∧ g = s.size - k ∧ v = .int .i64 k ∧ Hid (urun 0 (s.data.toList.take k) = 0) ∧ Hid (Below w.heap.size w wr))
  case atStart => exact ⟨0, Nat.zero_le _, rfl, rfl, Lib.hid rfl, Lib.hid (Below.refl _ _)⟩
  case round =>
    obtain ⟨k, hk, rfl, rfl, hU, hB⟩ := hrel
    by_cases hlt : k < s.size
    · obtain ⟨c, n, hcn⟩ : ∃ c n, uscal (s.data.toList.drop k) = (c, n) := ⟨_, _, rfl⟩
      have HC := Lib.hid hcn
      clear hcn
      have hdl : Hid ((s.data.toList.drop k).length = s.size - k) := Lib.hid (by rw [List.length_drop, ← hsz.out])
      by_cases hn : n = 0
      · subst hn
        have HR : Hid (uright s.data.toList = false) := Lib.hid (by
          have := uscal_none (s.data.toList.drop k) (by rw [HC.out]) (s.size - k) (by omega) (by rw [hdl.out]; exact Nat.le_refl _)
          rw [List.take_of_length_le (by rw [hdl.out]; exact Nat.le_refl _), ← run_split _ _ hU.out] at this
          rw [uright, beq_eq_false_iff_ne]; exact this)
        go_wp2_with fail
        refine (rscalar_at _ _ _ _ _ HC).mono ?_; rintro e w2 ⟨rfl, hb2⟩
        go_wp2_with fail
        go_ret
        exact ⟨by rw [HR.out]; rfl, bthen5 hB.out hb2⟩
      · have hn' : ((n : Int) == 0) = false := by rw [beq_eq_false_iff_ne]; omega
        have hsm := uscal_some (s.data.toList.drop k) (by rw [HC.out]; exact hn)
        rw [HC.out, hdl.out] at hsm
        have hle : k + n ≤ s.size := by have := hsm.1; simp only at this; omega
        have HT : Hid (urun 0 (s.data.toList.take (k + n)) = 0) := Lib.hid (by rw [run_take _ _ _ hU.out]; exact hsm.2.1)
        clear hsm
        go_wp2_with fail
        refine (rscalar_at _ _ _ _ _ HC).mono ?_; rintro e w2 ⟨rfl, hb2⟩
        have HB2 := Lib.hid (bthen5 hB.out hb2)
        clear hb2
        go_wp2_with fail
        go_roundg (s.size - (k + n))
        case measure => go_light; omega
        case rel => go_light; exact ⟨k + n, hle, rfl, by simp, HT, HB2⟩
    · have HR : Hid (uright s.data.toList = true) := Lib.hid (by
        have := hU.out
        rw [List.take_of_length_le (by rw [← hsz.out]; omega)] at this
        rw [uright, this]; rfl)
      go_wp2_with fail
      go_ret
      exact ⟨by rw [HR.out]; rfl, hB.out⟩
end Go.Proofs.YtjelneeeijjpiaaGreatDoor.Tx
end
section
namespace Go.Proofs.YtjelneeeijjpiaaGreatDoor
open Go.RowKit
open Go.Proofs.Le Go.Proofs.Lw
theorem conv4 (W : World) (a b c d : Int) : (convert 29 9 (.slice (some ⟨W.heap.size, 0, none⟩) 4 4)).run Tryz.prog (W.alloc (.cells #[.int .u8 a, .int .u8 b, .int .u8 c, .int .u8 d] 5)) = .ok (.string (strOfNums [a, b, c, d])) (W.alloc (.cells #[.int .u8 a, .int .u8 b, .int .u8 c, .int .u8 d] 5)) := by
  have := Tx.conv_new W [a, b, c, d] 4 rfl
  simpa using this
theorem conv4d (W : World) (a b c d : Int) : (convert 29 9 (.slice (some ⟨W.heap.size, 0, none⟩) 4 4)).run Tryz.prog (W.alloc (.cells #[.int .u8 a, .int .u8 b, .int .u8 c, .int .u8 d] 5)).drew = .ok (.string (strOfNums [a, b, c, d])) (W.alloc (.cells #[.int .u8 a, .int .u8 b, .int .u8 c, .int .u8 d] 5)).drew := by
  have := Tx.conv_drew W [a, b, c, d] 4 rfl
  simpa using this
theorem size4 (a b c d : Int) : (strOfNums [a, b, c, d]).size = 4 := rfl
theorem and15 (n : Int) (h0 : 0 ≤ n) (h1 : n < 9223372036854775808) : bits .and .i64 n 15 = n % 16 := Tx.i64_and_pow n 4 15 (by decide) rfl h0 h1
structure Uq (C d0 d1 d2 d3 : Nat) : Prop where
  h0 : d0 < 16
  h1 : d1 < 16
  h2 : d2 < 16
  h3 : d3 < 16
  e0 : (C : Int) / 4096 = (d0 : Int)
  e1 : bits .and .i64 ((C : Int) / 256) 15 = (d1 : Int)
  e2 : bits .and .i64 ((C : Int) / 16) 15 = (d2 : Int)
  e3 : bits .and .i64 (C : Int) 15 = (d3 : Int)
  u : unB (C : Int) = [92, 117, hexd d0, hexd d1, hexd d2, hexd d3]
theorem uq_of (C : Nat) (h : C ≤ 65535) : Uq C (C / 4096) (C / 256 % 16) (C / 16 % 16) (C % 16) := by
  refine ⟨by omega, by omega, by omega, by omega, by omega, ?_, ?_, ?_, ?_⟩
  · rw [and15 _ (by omega) (by omega)]; omega
  · rw [and15 _ (by omega) (by omega)]; omega
  · rw [and15 _ (by omega) (by omega)]; omega
  · rw [unB, if_neg (by omega)]
    rw [show ((C : Int) / 4096).toNat = C / 4096 by omega, show ((C : Int) / 256 % 16).toNat = C / 256 % 16 by omega, show ((C : Int) / 16 % 16).toNat = C / 16 % 16 by omega, show ((C : Int) % 16).toNat = C % 16 by omega]
theorem uq_str {C d0 d1 d2 d3 : Nat} (h : Uq C d0 d1 d2 d3) : ((⟨#[92, 117]⟩ ++ strOfNums [((Tx.hexS[d0]'h.h0).toNat : Int), ((Tx.hexS[d1]'h.h1).toNat : Int), ((Tx.hexS[d2]'h.h2).toNat : Int), ((Tx.hexS[d3]'h.h3).toNat : Int)] : ByteArray)).data.toList = unB (C : Int) := by
  rw [h.u, Tx.dig_key ⟨d0, h.h0⟩, Tx.dig_key ⟨d1, h.h1⟩, Tx.dig_key ⟨d2, h.h2⟩, Tx.dig_key ⟨d3, h.h3⟩]
  simp [strOfNums_data]
structure Us (t : ByteArray) (k : Nat) (cs : List Int) (U : ByteArray) : Prop where
  u : U.data.toList = 34 :: unS cs
  p : ∀ c ∈ cs, putL c ≠ []
  e : t.data.toList.take k = putS cs
  z : urun 0 (t.data.toList.take k) = 0
  s : U.size ≤ 6 * k + 1
theorem unB_size (c : Int) : (unB c).length ≤ 6 := unB_len c
theorem Us.next {t : ByteArray} {k : Nat} {cs : List Int} {U X : ByteArray} {c : Int} {n : Nat} (h : Us t k cs U) (hk : k ≤ t.size) (hc : uscal (t.data.toList.drop k) = (c, n)) (hn : n ≠ 0) (hX : X.data.toList = unB c) : Us t (k + n) (cs ++ [c]) (U ++ X) := by
  have h1 := uscal_is (t.data.toList.drop k) (by rw [hc]; exact hn)
  have h2 := uscal_some (t.data.toList.drop k) (by rw [hc]; exact hn)
  rw [hc] at h1 h2
  have hp : putL c ≠ [] := by
    intro e; rw [e] at h1
    have : ((t.data.toList.drop k).take n).length = 0 := by rw [← h1]; rfl
    rw [List.length_take] at this
    have := h2.1
    simp only at this
    omega
  refine ⟨?_, ?_, ?_, ?_, ?_⟩
  · rw [unS_snoc, ← hX]; simp [h.u]
  · intro x hx
    rcases List.mem_append.1 hx with hx | hx
    · exact h.p x hx
    · simp at hx; subst hx; exact hp
  · rw [putS_snoc', ← h.e, h1, List.take_add]
  · rw [List.take_add, urun_append, h.z]; exact h2.2.1
  · rw [ByteArray.size_append, Lib.size_eq X, hX]
    have := unB_size c
    have := h.s
    omega
theorem scal_next (t : ByteArray) (k : Nat) (hk : k < t.size) (hu : uright t.data.toList = true) (hz : urun 0 (t.data.toList.take k) = 0) (c : Int) (n : Nat) (hc : uscal (t.data.toList.drop k) = (c, n)) : n ≠ 0 ∧ k + n ≤ t.size := by
  have hdl : (t.data.toList.drop k).length = t.size - k := by rw [List.length_drop, ← Lib.size_eq]
  have hn : n ≠ 0 := by
    rintro rfl
    have := uscal_none (t.data.toList.drop k) (by rw [hc]) (t.size - k) (by omega) (by rw [hdl]; exact Nat.le_refl _)
    rw [List.take_of_length_le (by rw [hdl]; exact Nat.le_refl _)] at this
    apply this
    have h2 := urun_append 0 (t.data.toList.take k) (t.data.toList.drop k)
    rw [List.take_append_drop, hz] at h2
    rw [← h2]
    rw [uright, beq_iff_eq] at hu; exact hu
  have := (uscal_some (t.data.toList.drop k) (by rw [hc]; exact hn)).1
  rw [hc, hdl] at this
  simp only at this
  exact ⟨hn, by omega⟩
theorem scal_nat (l : List UInt8) (c : Int) (n : Nat) (h : uscal l = (c, n)) (hn : n ≠ 0) : ∃ C : Nat, c = (C : Int) := by
  have h1 := uscal_is l (by rw [h]; exact hn)
  rw [h] at h1
  have h2 := uscal_some l (by rw [h]; exact hn)
  rw [h] at h2
  have hp : ¬ (c < 0 ∨ 1114111 < c ∨ 55296 ≤ c ∧ c ≤ 57343) := by
    intro e
    have := (putL_none c).2 e
    rw [this] at h1
    have h3 : (l.take n).length = 0 := by rw [← h1]; rfl
    rw [List.length_take] at h3
    have := h2.1
    simp only at this
    omega
  exact ⟨c.toNat, by omega⟩
theorem us_done {t : ByteArray} {k : Nat} {cs : List Int} {U : ByteArray} (h : Us t k cs U) (hk : k = t.size) : OkL (U ++ ⟨#[34]⟩ : ByteArray).data.toList ∧ textP (charsL (U ++ ⟨#[34]⟩ : ByteArray).data.toList) = t.data.toList := by
  have e : (U ++ ⟨#[34]⟩ : ByteArray).data.toList = [34] ++ unS cs ++ [34] := by simp [h.u]
  have := units_ok cs h.p
  rw [e]
  refine ⟨this.1, this.2.trans ?_⟩
  rw [← h.e, List.take_of_length_le (by rw [← Lib.size_eq]; omega)]
end Go.Proofs.YtjelneeeijjpiaaGreatDoor
end
