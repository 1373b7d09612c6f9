/- TopText: walks and plain laws, part 39: lemmas on what the functions that the law comes to compute. -/
import Derived.Test.YtjelneeeijjpiaaGreatDoorG38
import Derived.Test.YtjelneeeijjpiaaGreatDoorG05
import Derived.Deep.RegionHeld3
set_option linter.unusedVariables false
set_option linter.unusedSimpArgs false
section
set_option maxRecDepth 100000
namespace Go.Proofs.YtjelneeeijjpiaaGreatDoor.Tx
open Go.RowKit Go.Proofs.Lw Go.Proofs.Le
theorem SB.eq {B b : Nat} {l l' : List UInt8} {w : World} (h : SB B b l w) (e : l = l') : SB B b l' w := by rw [← e]; exact h
abbrev hexS : ByteArray := ⟨#[48, 49, 50, 51, 52, 53, 54, 55, 56, 57, 97, 98, 99, 100, 101, 102]⟩
set_option maxRecDepth 100000 in
theorem hex_key : ∀ k : Fin 16, (Utf8.encode ((hexS[k.1]'k.2).toNat : Int)).size = 1 ∧ (Utf8.encode ((hexS[k.1]'k.2).toNat : Int)).data.toList = [hexd k.1] := by decide
theorem hex_enc (k : Nat) (hk : k < 16) : ∃ H : ByteArray, Utf8.encode ((hexS[k]'hk).toNat : Int) = H ∧ H.size = 1 ∧ Hid (H.data.toList = [hexd k]) := by
  have h := hex_key ⟨k, hk⟩
  generalize Utf8.encode ((hexS[k]'hk).toNat : Int) = H at h ⊢
  exact ⟨H, rfl, h.1, Lib.hid h.2⟩
theorem keeps_drew (B b : Nat) (w : World) : Keeps B b w w.drew := ⟨(Below.refl B w).drew, (Lib.OthersKept.refl _ _ w).drew⟩
def Sign (c : Nat) : Prop := ∀ (B b : Nat) (l : List UInt8) (w : World), Hid (SB B b l w) → l.length ≤ 10000000 → B ≤ w.heap.size →
    Calls Tryz.prog 339 #[.pointer (some ⟨b, 0, none⟩), .int .u8 (c : Nat)] w fun e w' => e = .returned (.tuple #[]) ∧ SB B b (l ++ ctlB c) w' ∧ Keeps B b w w'
theorem hex_list {HI LO : ByteArray} {i j : Nat} (hi : Hid (HI.data.toList = [hexd i])) (lo : Hid (LO.data.toList = [hexd j])) : ((⟨#[117, 48, 48]⟩ : ByteArray) ++ HI ++ LO).data.toList = [117, 48, 48, hexd i, hexd j] := by
  simp [hi.out, lo.out]
set_option maxRecDepth 100000 in
theorem sign0 : Sign 0 := by
  intro B b l w hS hl hBw
  have hbt : bits .and .u8 0 15 = 0 := by decide
  obtain ⟨HI, hHI, zHI, dHI⟩ := hex_enc 0 (by decide)
  obtain ⟨LO, hLO, zLO, dLO⟩ := hex_enc 0 (by decide)
  go_enter Tryz.func339, Tryz.ntmps339
  go_wp2_with fail
  refine (sb_writeByte B b l 92 _ hS.out (by omega) hBw (by omega) (by omega)).mono ?_; rintro e w2 ⟨rfl, h1, h2⟩
  have H1 := Lib.hid h1
  have H2 := Lib.hid h2
  have hB2 : B ≤ w2.heap.size := Nat.le_trans hBw h2.1.size
  clear h1 h2
  go_wp2_with fail
  have H1d := Lib.hid (SB.below H1.out ((Below.refl _ _).drew))
  have H2d := Lib.hid (H2.out.trans (keeps_drew B b w2))
  go_region_held3 (fun _ => True) (trivial)
    (first | (go_at_call 67; refine (sb_writeString B b _ _ _ H1d.out (by simp; omega) (by simp [zHI]; decide) hB2).mono ?_; rintro e w3 ⟨rfl, h3, h4⟩; have H3 := Lib.hid (h3.eq (l' := l ++ ctlB 0) (by rw [hex_list dHI dHI, List.append_assoc]; rfl)); have H4 := Lib.hid (H2d.out.trans h4); clear h3 h4))
  all_goals
    go_wp2_with fail
    go_end0
    exact ⟨rfl, H3.out, H4.out⟩
set_option maxRecDepth 100000 in
theorem sign1 : Sign 1 := by
  intro B b l w hS hl hBw
  have hbt : bits .and .u8 1 15 = 1 := by decide
  obtain ⟨HI, hHI, zHI, dHI⟩ := hex_enc 0 (by decide)
  obtain ⟨LO, hLO, zLO, dLO⟩ := hex_enc 1 (by decide)
  go_enter Tryz.func339, Tryz.ntmps339
  go_wp2_with fail
  refine (sb_writeByte B b l 92 _ hS.out (by omega) hBw (by omega) (by omega)).mono ?_; rintro e w2 ⟨rfl, h1, h2⟩
  have H1 := Lib.hid h1
  have H2 := Lib.hid h2
  have hB2 : B ≤ w2.heap.size := Nat.le_trans hBw h2.1.size
  clear h1 h2
  go_wp2_with fail
  have H1d := Lib.hid (SB.below H1.out ((Below.refl _ _).drew))
  have H2d := Lib.hid (H2.out.trans (keeps_drew B b w2))
  go_region_held3 (fun _ => True) (trivial)
    (first | (go_at_call 67; refine (sb_writeString B b _ _ _ H1d.out (by simp; omega) (by simp [zHI, zLO]; decide) hB2).mono ?_; rintro e w3 ⟨rfl, h3, h4⟩; have H3 := Lib.hid (h3.eq (l' := l ++ ctlB 1) (by rw [hex_list dHI dLO, List.append_assoc]; rfl)); have H4 := Lib.hid (H2d.out.trans h4); clear h3 h4))
  all_goals
    go_wp2_with fail
    go_end0
    exact ⟨rfl, H3.out, H4.out⟩
set_option maxRecDepth 100000 in
theorem sign2 : Sign 2 := by
  intro B b l w hS hl hBw
  have hbt : bits .and .u8 2 15 = 2 := by decide
  obtain ⟨HI, hHI, zHI, dHI⟩ := hex_enc 0 (by decide)
  obtain ⟨LO, hLO, zLO, dLO⟩ := hex_enc 2 (by decide)
  go_enter Tryz.func339, Tryz.ntmps339
  go_wp2_with fail
  refine (sb_writeByte B b l 92 _ hS.out (by omega) hBw (by omega) (by omega)).mono ?_; rintro e w2 ⟨rfl, h1, h2⟩
  have H1 := Lib.hid h1
  have H2 := Lib.hid h2
  have hB2 : B ≤ w2.heap.size := Nat.le_trans hBw h2.1.size
  clear h1 h2
  go_wp2_with fail
  have H1d := Lib.hid (SB.below H1.out ((Below.refl _ _).drew))
  have H2d := Lib.hid (H2.out.trans (keeps_drew B b w2))
  go_region_held3 (fun _ => True) (trivial)
    (first | (go_at_call 67; refine (sb_writeString B b _ _ _ H1d.out (by simp; omega) (by simp [zHI, zLO]; decide) hB2).mono ?_; rintro e w3 ⟨rfl, h3, h4⟩; have H3 := Lib.hid (h3.eq (l' := l ++ ctlB 2) (by rw [hex_list dHI dLO, List.append_assoc]; rfl)); have H4 := Lib.hid (H2d.out.trans h4); clear h3 h4))
  all_goals
    go_wp2_with fail
    go_end0
    exact ⟨rfl, H3.out, H4.out⟩
set_option maxRecDepth 100000 in
theorem sign3 : Sign 3 := by
  intro B b l w hS hl hBw
  have hbt : bits .and .u8 3 15 = 3 := by decide
  obtain ⟨HI, hHI, zHI, dHI⟩ := hex_enc 0 (by decide)
  obtain ⟨LO, hLO, zLO, dLO⟩ := hex_enc 3 (by decide)
  go_enter Tryz.func339, Tryz.ntmps339
  go_wp2_with fail
  refine (sb_writeByte B b l 92 _ hS.out (by omega) hBw (by omega) (by omega)).mono ?_; rintro e w2 ⟨rfl, h1, h2⟩
  have H1 := Lib.hid h1
  have H2 := Lib.hid h2
  have hB2 : B ≤ w2.heap.size := Nat.le_trans hBw h2.1.size
  clear h1 h2
  go_wp2_with fail
  have H1d := Lib.hid (SB.below H1.out ((Below.refl _ _).drew))
  have H2d := Lib.hid (H2.out.trans (keeps_drew B b w2))
  go_region_held3 (fun _ => True) (trivial)
    (first | (go_at_call 67; refine (sb_writeString B b _ _ _ H1d.out (by simp; omega) (by simp [zHI, zLO]; decide) hB2).mono ?_; rintro e w3 ⟨rfl, h3, h4⟩; have H3 := Lib.hid (h3.eq (l' := l ++ ctlB 3) (by rw [hex_list dHI dLO, List.append_assoc]; rfl)); have H4 := Lib.hid (H2d.out.trans h4); clear h3 h4))
  all_goals
    go_wp2_with fail
    go_end0
    exact ⟨rfl, H3.out, H4.out⟩
set_option maxRecDepth 100000 in
theorem sign4 : Sign 4 := by
  intro B b l w hS hl hBw
  have hbt : bits .and .u8 4 15 = 4 := by decide
  obtain ⟨HI, hHI, zHI, dHI⟩ := hex_enc 0 (by decide)
  obtain ⟨LO, hLO, zLO, dLO⟩ := hex_enc 4 (by decide)
  go_enter Tryz.func339, Tryz.ntmps339
  go_wp2_with fail
  refine (sb_writeByte B b l 92 _ hS.out (by omega) hBw (by omega) (by omega)).mono ?_; rintro e w2 ⟨rfl, h1, h2⟩
  have H1 := Lib.hid h1
  have H2 := Lib.hid h2
  have hB2 : B ≤ w2.heap.size := Nat.le_trans hBw h2.1.size
  clear h1 h2
  go_wp2_with fail
  have H1d := Lib.hid (SB.below H1.out ((Below.refl _ _).drew))
  have H2d := Lib.hid (H2.out.trans (keeps_drew B b w2))
  go_region_held3 (fun _ => True) (trivial)
    (first | (go_at_call 67; refine (sb_writeString B b _ _ _ H1d.out (by simp; omega) (by simp [zHI, zLO]; decide) hB2).mono ?_; rintro e w3 ⟨rfl, h3, h4⟩; have H3 := Lib.hid (h3.eq (l' := l ++ ctlB 4) (by rw [hex_list dHI dLO, List.append_assoc]; rfl)); have H4 := Lib.hid (H2d.out.trans h4); clear h3 h4))
  all_goals
    go_wp2_with fail
    go_end0
    exact ⟨rfl, H3.out, H4.out⟩
set_option maxRecDepth 100000 in
theorem sign5 : Sign 5 := by
  intro B b l w hS hl hBw
  have hbt : bits .and .u8 5 15 = 5 := by decide
  obtain ⟨HI, hHI, zHI, dHI⟩ := hex_enc 0 (by decide)
  obtain ⟨LO, hLO, zLO, dLO⟩ := hex_enc 5 (by decide)
  go_enter Tryz.func339, Tryz.ntmps339
  go_wp2_with fail
  refine (sb_writeByte B b l 92 _ hS.out (by omega) hBw (by omega) (by omega)).mono ?_; rintro e w2 ⟨rfl, h1, h2⟩
  have H1 := Lib.hid h1
  have H2 := Lib.hid h2
  have hB2 : B ≤ w2.heap.size := Nat.le_trans hBw h2.1.size
  clear h1 h2
  go_wp2_with fail
  have H1d := Lib.hid (SB.below H1.out ((Below.refl _ _).drew))
  have H2d := Lib.hid (H2.out.trans (keeps_drew B b w2))
  go_region_held3 (fun _ => True) (trivial)
    (first | (go_at_call 67; refine (sb_writeString B b _ _ _ H1d.out (by simp; omega) (by simp [zHI, zLO]; decide) hB2).mono ?_; rintro e w3 ⟨rfl, h3, h4⟩; have H3 := Lib.hid (h3.eq (l' := l ++ ctlB 5) (by rw [hex_list dHI dLO, List.append_assoc]; rfl)); have H4 := Lib.hid (H2d.out.trans h4); clear h3 h4))
  all_goals
    go_wp2_with fail
    go_end0
    exact ⟨rfl, H3.out, H4.out⟩
set_option maxRecDepth 100000 in
theorem sign6 : Sign 6 := by
  intro B b l w hS hl hBw
  have hbt : bits .and .u8 6 15 = 6 := by decide
  obtain ⟨HI, hHI, zHI, dHI⟩ := hex_enc 0 (by decide)
  obtain ⟨LO, hLO, zLO, dLO⟩ := hex_enc 6 (by decide)
  go_enter Tryz.func339, Tryz.ntmps339
  go_wp2_with fail
  refine (sb_writeByte B b l 92 _ hS.out (by omega) hBw (by omega) (by omega)).mono ?_; rintro e w2 ⟨rfl, h1, h2⟩
  have H1 := Lib.hid h1
  have H2 := Lib.hid h2
  have hB2 : B ≤ w2.heap.size := Nat.le_trans hBw h2.1.size
  clear h1 h2
  go_wp2_with fail
  have H1d := Lib.hid (SB.below H1.out ((Below.refl _ _).drew))
  have H2d := Lib.hid (H2.out.trans (keeps_drew B b w2))
  go_region_held3 (fun _ => True) (trivial)
    (first | (go_at_call 67; refine (sb_writeString B b _ _ _ H1d.out (by simp; omega) (by simp [zHI, zLO]; decide) hB2).mono ?_; rintro e w3 ⟨rfl, h3, h4⟩; have H3 := Lib.hid (h3.eq (l' := l ++ ctlB 6) (by rw [hex_list dHI dLO, List.append_assoc]; rfl)); have H4 := Lib.hid (H2d.out.trans h4); clear h3 h4))
  all_goals
    go_wp2_with fail
    go_end0
    exact ⟨rfl, H3.out, H4.out⟩
set_option maxRecDepth 100000 in
theorem sign7 : Sign 7 := by
  intro B b l w hS hl hBw
  have hbt : bits .and .u8 7 15 = 7 := by decide
  obtain ⟨HI, hHI, zHI, dHI⟩ := hex_enc 0 (by decide)
  obtain ⟨LO, hLO, zLO, dLO⟩ := hex_enc 7 (by decide)
  go_enter Tryz.func339, Tryz.ntmps339
  go_wp2_with fail
  refine (sb_writeByte B b l 92 _ hS.out (by omega) hBw (by omega) (by omega)).mono ?_; rintro e w2 ⟨rfl, h1, h2⟩
  have H1 := Lib.hid h1
  have H2 := Lib.hid h2
  have hB2 : B ≤ w2.heap.size := Nat.le_trans hBw h2.1.size
  clear h1 h2
  go_wp2_with fail
  have H1d := Lib.hid (SB.below H1.out ((Below.refl _ _).drew))
  have H2d := Lib.hid (H2.out.trans (keeps_drew B b w2))
  go_region_held3 (fun _ => True) (trivial)
    (first | (go_at_call 67; refine (sb_writeString B b _ _ _ H1d.out (by simp; omega) (by simp [zHI, zLO]; decide) hB2).mono ?_; rintro e w3 ⟨rfl, h3, h4⟩; have H3 := Lib.hid (h3.eq (l' := l ++ ctlB 7) (by rw [hex_list dHI dLO, List.append_assoc]; rfl)); have H4 := Lib.hid (H2d.out.trans h4); clear h3 h4))
  all_goals
    go_wp2_with fail
    go_end0
    exact ⟨rfl, H3.out, H4.out⟩
set_option maxRecDepth 100000 in
theorem sign8 : Sign 8 := by
  intro B b l w hS hl hBw
  go_enter Tryz.func339, Tryz.ntmps339
  go_wp2_with fail
  refine (sb_writeByte B b l 92 _ hS.out (by omega) hBw (by omega) (by omega)).mono ?_; rintro e w2 ⟨rfl, h1, h2⟩
  have H1 := Lib.hid h1
  have H2 := Lib.hid h2
  have hB2 : B ≤ w2.heap.size := Nat.le_trans hBw h2.1.size
  clear h1 h2
  go_wp2_with fail
  refine (sb_writeByte B b _ 98 _ H1.out (by simp; omega) hB2 (by omega) (by omega)).mono ?_; rintro e w3 ⟨rfl, h1, h2⟩
  have H3 := Lib.hid (h1.eq (List.append_assoc _ _ _))
  have H4 := Lib.hid (H2.out.trans h2)
  clear h1 h2
  go_wp2_with fail
  go_end0
  exact ⟨rfl, H3.out, H4.out⟩
set_option maxRecDepth 100000 in
theorem sign9 : Sign 9 := by
  intro B b l w hS hl hBw
  go_enter Tryz.func339, Tryz.ntmps339
  go_wp2_with fail
  refine (sb_writeByte B b l 92 _ hS.out (by omega) hBw (by omega) (by omega)).mono ?_; rintro e w2 ⟨rfl, h1, h2⟩
  have H1 := Lib.hid h1
  have H2 := Lib.hid h2
  have hB2 : B ≤ w2.heap.size := Nat.le_trans hBw h2.1.size
  clear h1 h2
  go_wp2_with fail
  refine (sb_writeByte B b _ 116 _ H1.out (by simp; omega) hB2 (by omega) (by omega)).mono ?_; rintro e w3 ⟨rfl, h1, h2⟩
  have H3 := Lib.hid (h1.eq (List.append_assoc _ _ _))
  have H4 := Lib.hid (H2.out.trans h2)
  clear h1 h2
  go_wp2_with fail
  go_end0
  exact ⟨rfl, H3.out, H4.out⟩
set_option maxRecDepth 100000 in
theorem sign10 : Sign 10 := by
  intro B b l w hS hl hBw
  go_enter Tryz.func339, Tryz.ntmps339
  go_wp2_with fail
  refine (sb_writeByte B b l 92 _ hS.out (by omega) hBw (by omega) (by omega)).mono ?_; rintro e w2 ⟨rfl, h1, h2⟩
  have H1 := Lib.hid h1
  have H2 := Lib.hid h2
  have hB2 : B ≤ w2.heap.size := Nat.le_trans hBw h2.1.size
  clear h1 h2
  go_wp2_with fail
  refine (sb_writeByte B b _ 110 _ H1.out (by simp; omega) hB2 (by omega) (by omega)).mono ?_; rintro e w3 ⟨rfl, h1, h2⟩
  have H3 := Lib.hid (h1.eq (List.append_assoc _ _ _))
  have H4 := Lib.hid (H2.out.trans h2)
  clear h1 h2
  go_wp2_with fail
  go_end0
  exact ⟨rfl, H3.out, H4.out⟩
set_option maxRecDepth 100000 in
theorem sign11 : Sign 11 := by
  intro B b l w hS hl hBw
  have hbt : bits .and .u8 11 15 = 11 := by decide
  obtain ⟨HI, hHI, zHI, dHI⟩ := hex_enc 0 (by decide)
  obtain ⟨LO, hLO, zLO, dLO⟩ := hex_enc 11 (by decide)
  go_enter Tryz.func339, Tryz.ntmps339
  go_wp2_with fail
  refine (sb_writeByte B b l 92 _ hS.out (by omega) hBw (by omega) (by omega)).mono ?_; rintro e w2 ⟨rfl, h1, h2⟩
  have H1 := Lib.hid h1
  have H2 := Lib.hid h2
  have hB2 : B ≤ w2.heap.size := Nat.le_trans hBw h2.1.size
  clear h1 h2
  go_wp2_with fail
  have H1d := Lib.hid (SB.below H1.out ((Below.refl _ _).drew))
  have H2d := Lib.hid (H2.out.trans (keeps_drew B b w2))
  go_region_held3 (fun _ => True) (trivial)
    (first | (go_at_call 67; refine (sb_writeString B b _ _ _ H1d.out (by simp; omega) (by simp [zHI, zLO]; decide) hB2).mono ?_; rintro e w3 ⟨rfl, h3, h4⟩; have H3 := Lib.hid (h3.eq (l' := l ++ ctlB 11) (by rw [hex_list dHI dLO, List.append_assoc]; rfl)); have H4 := Lib.hid (H2d.out.trans h4); clear h3 h4))
  all_goals
    go_wp2_with fail
    go_end0
    exact ⟨rfl, H3.out, H4.out⟩
set_option maxRecDepth 100000 in
theorem sign12 : Sign 12 := by
  intro B b l w hS hl hBw
  go_enter Tryz.func339, Tryz.ntmps339
  go_wp2_with fail
  refine (sb_writeByte B b l 92 _ hS.out (by omega) hBw (by omega) (by omega)).mono ?_; rintro e w2 ⟨rfl, h1, h2⟩
  have H1 := Lib.hid h1
  have H2 := Lib.hid h2
  have hB2 : B ≤ w2.heap.size := Nat.le_trans hBw h2.1.size
  clear h1 h2
  go_wp2_with fail
  refine (sb_writeByte B b _ 102 _ H1.out (by simp; omega) hB2 (by omega) (by omega)).mono ?_; rintro e w3 ⟨rfl, h1, h2⟩
  have H3 := Lib.hid (h1.eq (List.append_assoc _ _ _))
  have H4 := Lib.hid (H2.out.trans h2)
  clear h1 h2
  go_wp2_with fail
  go_end0
  exact ⟨rfl, H3.out, H4.out⟩
set_option maxRecDepth 100000 in
theorem sign13 : Sign 13 := by
  intro B b l w hS hl hBw
  go_enter Tryz.func339, Tryz.ntmps339
  go_wp2_with fail
  refine (sb_writeByte B b l 92 _ hS.out (by omega) hBw (by omega) (by omega)).mono ?_; rintro e w2 ⟨rfl, h1, h2⟩
  have H1 := Lib.hid h1
  have H2 := Lib.hid h2
  have hB2 : B ≤ w2.heap.size := Nat.le_trans hBw h2.1.size
  clear h1 h2
  go_wp2_with fail
  refine (sb_writeByte B b _ 114 _ H1.out (by simp; omega) hB2 (by omega) (by omega)).mono ?_; rintro e w3 ⟨rfl, h1, h2⟩
  have H3 := Lib.hid (h1.eq (List.append_assoc _ _ _))
  have H4 := Lib.hid (H2.out.trans h2)
  clear h1 h2
  go_wp2_with fail
  go_end0
  exact ⟨rfl, H3.out, H4.out⟩
set_option maxRecDepth 100000 in
theorem sign14 : Sign 14 := by
  intro B b l w hS hl hBw
  have hbt : bits .and .u8 14 15 = 14 := by decide
  obtain ⟨HI, hHI, zHI, dHI⟩ := hex_enc 0 (by decide)
  obtain ⟨LO, hLO, zLO, dLO⟩ := hex_enc 14 (by decide)
  go_enter Tryz.func339, Tryz.ntmps339
  go_wp2_with fail
  refine (sb_writeByte B b l 92 _ hS.out (by omega) hBw (by omega) (by omega)).mono ?_; rintro e w2 ⟨rfl, h1, h2⟩
  have H1 := Lib.hid h1
  have H2 := Lib.hid h2
  have hB2 : B ≤ w2.heap.size := Nat.le_trans hBw h2.1.size
  clear h1 h2
  go_wp2_with fail
  have H1d := Lib.hid (SB.below H1.out ((Below.refl _ _).drew))
  have H2d := Lib.hid (H2.out.trans (keeps_drew B b w2))
  go_region_held3 (fun _ => True) (trivial)
    (first | (go_at_call 67; refine (sb_writeString B b _ _ _ H1d.out (by simp; omega) (by simp [zHI, zLO]; decide) hB2).mono ?_; rintro e w3 ⟨rfl, h3, h4⟩; have H3 := Lib.hid (h3.eq (l' := l ++ ctlB 14) (by rw [hex_list dHI dLO, List.append_assoc]; rfl)); have H4 := Lib.hid (H2d.out.trans h4); clear h3 h4))
  all_goals
    go_wp2_with fail
    go_end0
    exact ⟨rfl, H3.out, H4.out⟩
set_option maxRecDepth 100000 in
theorem sign15 : Sign 15 := by
  intro B b l w hS hl hBw
  have hbt : bits .and .u8 15 15 = 15 := by decide
  obtain ⟨HI, hHI, zHI, dHI⟩ := hex_enc 0 (by decide)
  obtain ⟨LO, hLO, zLO, dLO⟩ := hex_enc 15 (by decide)
  go_enter Tryz.func339, Tryz.ntmps339
  go_wp2_with fail
  refine (sb_writeByte B b l 92 _ hS.out (by omega) hBw (by omega) (by omega)).mono ?_; rintro e w2 ⟨rfl, h1, h2⟩
  have H1 := Lib.hid h1
  have H2 := Lib.hid h2
  have hB2 : B ≤ w2.heap.size := Nat.le_trans hBw h2.1.size
  clear h1 h2
  go_wp2_with fail
  have H1d := Lib.hid (SB.below H1.out ((Below.refl _ _).drew))
  have H2d := Lib.hid (H2.out.trans (keeps_drew B b w2))
  go_region_held3 (fun _ => True) (trivial)
    (first | (go_at_call 67; refine (sb_writeString B b _ _ _ H1d.out (by simp; omega) (by simp [zHI, zLO]; decide) hB2).mono ?_; rintro e w3 ⟨rfl, h3, h4⟩; have H3 := Lib.hid (h3.eq (l' := l ++ ctlB 15) (by rw [hex_list dHI dLO, List.append_assoc]; rfl)); have H4 := Lib.hid (H2d.out.trans h4); clear h3 h4))
  all_goals
    go_wp2_with fail
    go_end0
    exact ⟨rfl, H3.out, H4.out⟩
set_option maxRecDepth 100000 in
theorem sign16 : Sign 16 := by
  intro B b l w hS hl hBw
  have hbt : bits .and .u8 16 15 = 0 := by decide
  obtain ⟨HI, hHI, zHI, dHI⟩ := hex_enc 1 (by decide)
  obtain ⟨LO, hLO, zLO, dLO⟩ := hex_enc 0 (by decide)
  go_enter Tryz.func339, Tryz.ntmps339
  go_wp2_with fail
  refine (sb_writeByte B b l 92 _ hS.out (by omega) hBw (by omega) (by omega)).mono ?_; rintro e w2 ⟨rfl, h1, h2⟩
  have H1 := Lib.hid h1
  have H2 := Lib.hid h2
  have hB2 : B ≤ w2.heap.size := Nat.le_trans hBw h2.1.size
  clear h1 h2
  go_wp2_with fail
  have H1d := Lib.hid (SB.below H1.out ((Below.refl _ _).drew))
  have H2d := Lib.hid (H2.out.trans (keeps_drew B b w2))
  go_region_held3 (fun _ => True) (trivial)
    (first | (go_at_call 67; refine (sb_writeString B b _ _ _ H1d.out (by simp; omega) (by simp [zHI, zLO]; decide) hB2).mono ?_; rintro e w3 ⟨rfl, h3, h4⟩; have H3 := Lib.hid (h3.eq (l' := l ++ ctlB 16) (by rw [hex_list dHI dLO, List.append_assoc]; rfl)); have H4 := Lib.hid (H2d.out.trans h4); clear h3 h4))
  all_goals
    go_wp2_with fail
    go_end0
    exact ⟨rfl, H3.out, H4.out⟩
set_option maxRecDepth 100000 in
theorem sign17 : Sign 17 := by
  intro B b l w hS hl hBw
  have hbt : bits .and .u8 17 15 = 1 := by decide
  obtain ⟨HI, hHI, zHI, dHI⟩ := hex_enc 1 (by decide)
  obtain ⟨LO, hLO, zLO, dLO⟩ := hex_enc 1 (by decide)
  go_enter Tryz.func339, Tryz.ntmps339
  go_wp2_with fail
  refine (sb_writeByte B b l 92 _ hS.out (by omega) hBw (by omega) (by omega)).mono ?_; rintro e w2 ⟨rfl, h1, h2⟩
  have H1 := Lib.hid h1
  have H2 := Lib.hid h2
  have hB2 : B ≤ w2.heap.size := Nat.le_trans hBw h2.1.size
  clear h1 h2
  go_wp2_with fail
  have H1d := Lib.hid (SB.below H1.out ((Below.refl _ _).drew))
  have H2d := Lib.hid (H2.out.trans (keeps_drew B b w2))
  go_region_held3 (fun _ => True) (trivial)
    (first | (go_at_call 67; refine (sb_writeString B b _ _ _ H1d.out (by simp; omega) (by simp [zHI]; decide) hB2).mono ?_; rintro e w3 ⟨rfl, h3, h4⟩; have H3 := Lib.hid (h3.eq (l' := l ++ ctlB 17) (by rw [hex_list dHI dHI, List.append_assoc]; rfl)); have H4 := Lib.hid (H2d.out.trans h4); clear h3 h4))
  all_goals
    go_wp2_with fail
    go_end0
    exact ⟨rfl, H3.out, H4.out⟩
set_option maxRecDepth 100000 in
theorem sign18 : Sign 18 := by
  intro B b l w hS hl hBw
  have hbt : bits .and .u8 18 15 = 2 := by decide
  obtain ⟨HI, hHI, zHI, dHI⟩ := hex_enc 1 (by decide)
  obtain ⟨LO, hLO, zLO, dLO⟩ := hex_enc 2 (by decide)
  go_enter Tryz.func339, Tryz.ntmps339
  go_wp2_with fail
  refine (sb_writeByte B b l 92 _ hS.out (by omega) hBw (by omega) (by omega)).mono ?_; rintro e w2 ⟨rfl, h1, h2⟩
  have H1 := Lib.hid h1
  have H2 := Lib.hid h2
  have hB2 : B ≤ w2.heap.size := Nat.le_trans hBw h2.1.size
  clear h1 h2
  go_wp2_with fail
  have H1d := Lib.hid (SB.below H1.out ((Below.refl _ _).drew))
  have H2d := Lib.hid (H2.out.trans (keeps_drew B b w2))
  go_region_held3 (fun _ => True) (trivial)
    (first | (go_at_call 67; refine (sb_writeString B b _ _ _ H1d.out (by simp; omega) (by simp [zHI, zLO]; decide) hB2).mono ?_; rintro e w3 ⟨rfl, h3, h4⟩; have H3 := Lib.hid (h3.eq (l' := l ++ ctlB 18) (by rw [hex_list dHI dLO, List.append_assoc]; rfl)); have H4 := Lib.hid (H2d.out.trans h4); clear h3 h4))
  all_goals
    go_wp2_with fail
    go_end0
    exact ⟨rfl, H3.out, H4.out⟩
set_option maxRecDepth 100000 in
theorem sign19 : Sign 19 := by
  intro B b l w hS hl hBw
  have hbt : bits .and .u8 19 15 = 3 := by decide
  obtain ⟨HI, hHI, zHI, dHI⟩ := hex_enc 1 (by decide)
  obtain ⟨LO, hLO, zLO, dLO⟩ := hex_enc 3 (by decide)
  go_enter Tryz.func339, Tryz.ntmps339
  go_wp2_with fail
  refine (sb_writeByte B b l 92 _ hS.out (by omega) hBw (by omega) (by omega)).mono ?_; rintro e w2 ⟨rfl, h1, h2⟩
  have H1 := Lib.hid h1
  have H2 := Lib.hid h2
  have hB2 : B ≤ w2.heap.size := Nat.le_trans hBw h2.1.size
  clear h1 h2
  go_wp2_with fail
  have H1d := Lib.hid (SB.below H1.out ((Below.refl _ _).drew))
  have H2d := Lib.hid (H2.out.trans (keeps_drew B b w2))
  go_region_held3 (fun _ => True) (trivial)
    (first | (go_at_call 67; refine (sb_writeString B b _ _ _ H1d.out (by simp; omega) (by simp [zHI, zLO]; decide) hB2).mono ?_; rintro e w3 ⟨rfl, h3, h4⟩; have H3 := Lib.hid (h3.eq (l' := l ++ ctlB 19) (by rw [hex_list dHI dLO, List.append_assoc]; rfl)); have H4 := Lib.hid (H2d.out.trans h4); clear h3 h4))
  all_goals
    go_wp2_with fail
    go_end0
    exact ⟨rfl, H3.out, H4.out⟩
set_option maxRecDepth 100000 in
theorem sign20 : Sign 20 := by
  intro B b l w hS hl hBw
  have hbt : bits .and .u8 20 15 = 4 := by decide
  obtain ⟨HI, hHI, zHI, dHI⟩ := hex_enc 1 (by decide)
  obtain ⟨LO, hLO, zLO, dLO⟩ := hex_enc 4 (by decide)
  go_enter Tryz.func339, Tryz.ntmps339
  go_wp2_with fail
  refine (sb_writeByte B b l 92 _ hS.out (by omega) hBw (by omega) (by omega)).mono ?_; rintro e w2 ⟨rfl, h1, h2⟩
  have H1 := Lib.hid h1
  have H2 := Lib.hid h2
  have hB2 : B ≤ w2.heap.size := Nat.le_trans hBw h2.1.size
  clear h1 h2
  go_wp2_with fail
  have H1d := Lib.hid (SB.below H1.out ((Below.refl _ _).drew))
  have H2d := Lib.hid (H2.out.trans (keeps_drew B b w2))
  go_region_held3 (fun _ => True) (trivial)
    (first | (go_at_call 67; refine (sb_writeString B b _ _ _ H1d.out (by simp; omega) (by simp [zHI, zLO]; decide) hB2).mono ?_; rintro e w3 ⟨rfl, h3, h4⟩; have H3 := Lib.hid (h3.eq (l' := l ++ ctlB 20) (by rw [hex_list dHI dLO, List.append_assoc]; rfl)); have H4 := Lib.hid (H2d.out.trans h4); clear h3 h4))
  all_goals
    go_wp2_with fail
    go_end0
    exact ⟨rfl, H3.out, H4.out⟩
set_option maxRecDepth 100000 in
theorem sign21 : Sign 21 := by
  intro B b l w hS hl hBw
  have hbt : bits .and .u8 21 15 = 5 := by decide
  obtain ⟨HI, hHI, zHI, dHI⟩ := hex_enc 1 (by decide)
  obtain ⟨LO, hLO, zLO, dLO⟩ := hex_enc 5 (by decide)
  go_enter Tryz.func339, Tryz.ntmps339
  go_wp2_with fail
  refine (sb_writeByte B b l 92 _ hS.out (by omega) hBw (by omega) (by omega)).mono ?_; rintro e w2 ⟨rfl, h1, h2⟩
  have H1 := Lib.hid h1
  have H2 := Lib.hid h2
  have hB2 : B ≤ w2.heap.size := Nat.le_trans hBw h2.1.size
  clear h1 h2
  go_wp2_with fail
  have H1d := Lib.hid (SB.below H1.out ((Below.refl _ _).drew))
  have H2d := Lib.hid (H2.out.trans (keeps_drew B b w2))
  go_region_held3 (fun _ => True) (trivial)
    (first | (go_at_call 67; refine (sb_writeString B b _ _ _ H1d.out (by simp; omega) (by simp [zHI, zLO]; decide) hB2).mono ?_; rintro e w3 ⟨rfl, h3, h4⟩; have H3 := Lib.hid (h3.eq (l' := l ++ ctlB 21) (by rw [hex_list dHI dLO, List.append_assoc]; rfl)); have H4 := Lib.hid (H2d.out.trans h4); clear h3 h4))
  all_goals
    go_wp2_with fail
    go_end0
    exact ⟨rfl, H3.out, H4.out⟩
set_option maxRecDepth 100000 in
theorem sign22 : Sign 22 := by
  intro B b l w hS hl hBw
  have hbt : bits .and .u8 22 15 = 6 := by decide
  obtain ⟨HI, hHI, zHI, dHI⟩ := hex_enc 1 (by decide)
  obtain ⟨LO, hLO, zLO, dLO⟩ := hex_enc 6 (by decide)
  go_enter Tryz.func339, Tryz.ntmps339
  go_wp2_with fail
  refine (sb_writeByte B b l 92 _ hS.out (by omega) hBw (by omega) (by omega)).mono ?_; rintro e w2 ⟨rfl, h1, h2⟩
  have H1 := Lib.hid h1
  have H2 := Lib.hid h2
  have hB2 : B ≤ w2.heap.size := Nat.le_trans hBw h2.1.size
  clear h1 h2
  go_wp2_with fail
  have H1d := Lib.hid (SB.below H1.out ((Below.refl _ _).drew))
  have H2d := Lib.hid (H2.out.trans (keeps_drew B b w2))
  go_region_held3 (fun _ => True) (trivial)
    (first | (go_at_call 67; refine (sb_writeString B b _ _ _ H1d.out (by simp; omega) (by simp [zHI, zLO]; decide) hB2).mono ?_; rintro e w3 ⟨rfl, h3, h4⟩; have H3 := Lib.hid (h3.eq (l' := l ++ ctlB 22) (by rw [hex_list dHI dLO, List.append_assoc]; rfl)); have H4 := Lib.hid (H2d.out.trans h4); clear h3 h4))
  all_goals
    go_wp2_with fail
    go_end0
    exact ⟨rfl, H3.out, H4.out⟩
set_option maxRecDepth 100000 in
theorem sign23 : Sign 23 := by
  intro B b l w hS hl hBw
  have hbt : bits .and .u8 23 15 = 7 := by decide
  obtain ⟨HI, hHI, zHI, dHI⟩ := hex_enc 1 (by decide)
  obtain ⟨LO, hLO, zLO, dLO⟩ := hex_enc 7 (by decide)
  go_enter Tryz.func339, Tryz.ntmps339
  go_wp2_with fail
  refine (sb_writeByte B b l 92 _ hS.out (by omega) hBw (by omega) (by omega)).mono ?_; rintro e w2 ⟨rfl, h1, h2⟩
  have H1 := Lib.hid h1
  have H2 := Lib.hid h2
  have hB2 : B ≤ w2.heap.size := Nat.le_trans hBw h2.1.size
  clear h1 h2
  go_wp2_with fail
  have H1d := Lib.hid (SB.below H1.out ((Below.refl _ _).drew))
  have H2d := Lib.hid (H2.out.trans (keeps_drew B b w2))
  go_region_held3 (fun _ => True) (trivial)
    (first | (go_at_call 67; refine (sb_writeString B b _ _ _ H1d.out (by simp; omega) (by simp [zHI, zLO]; decide) hB2).mono ?_; rintro e w3 ⟨rfl, h3, h4⟩; have H3 := Lib.hid (h3.eq (l' := l ++ ctlB 23) (by rw [hex_list dHI dLO, List.append_assoc]; rfl)); have H4 := Lib.hid (H2d.out.trans h4); clear h3 h4))
  all_goals
    go_wp2_with fail
    go_end0
    exact ⟨rfl, H3.out, H4.out⟩
set_option maxRecDepth 100000 in
theorem sign24 : Sign 24 := by
  intro B b l w hS hl hBw
  have hbt : bits .and .u8 24 15 = 8 := by decide
  obtain ⟨HI, hHI, zHI, dHI⟩ := hex_enc 1 (by decide)
  obtain ⟨LO, hLO, zLO, dLO⟩ := hex_enc 8 (by decide)
  go_enter Tryz.func339, Tryz.ntmps339
  go_wp2_with fail
  refine (sb_writeByte B b l 92 _ hS.out (by omega) hBw (by omega) (by omega)).mono ?_; rintro e w2 ⟨rfl, h1, h2⟩
  have H1 := Lib.hid h1
  have H2 := Lib.hid h2
  have hB2 : B ≤ w2.heap.size := Nat.le_trans hBw h2.1.size
  clear h1 h2
  go_wp2_with fail
  have H1d := Lib.hid (SB.below H1.out ((Below.refl _ _).drew))
  have H2d := Lib.hid (H2.out.trans (keeps_drew B b w2))
  go_region_held3 (fun _ => True) (trivial)
    (first | (go_at_call 67; refine (sb_writeString B b _ _ _ H1d.out (by simp; omega) (by simp [zHI, zLO]; decide) hB2).mono ?_; rintro e w3 ⟨rfl, h3, h4⟩; have H3 := Lib.hid (h3.eq (l' := l ++ ctlB 24) (by rw [hex_list dHI dLO, List.append_assoc]; rfl)); have H4 := Lib.hid (H2d.out.trans h4); clear h3 h4))
  all_goals
    go_wp2_with fail
    go_end0
    exact ⟨rfl, H3.out, H4.out⟩
set_option maxRecDepth 100000 in
theorem sign25 : Sign 25 := by
  intro B b l w hS hl hBw
  have hbt : bits .and .u8 25 15 = 9 := by decide
  obtain ⟨HI, hHI, zHI, dHI⟩ := hex_enc 1 (by decide)
  obtain ⟨LO, hLO, zLO, dLO⟩ := hex_enc 9 (by decide)
  go_enter Tryz.func339, Tryz.ntmps339
  go_wp2_with fail
  refine (sb_writeByte B b l 92 _ hS.out (by omega) hBw (by omega) (by omega)).mono ?_; rintro e w2 ⟨rfl, h1, h2⟩
  have H1 := Lib.hid h1
  have H2 := Lib.hid h2
  have hB2 : B ≤ w2.heap.size := Nat.le_trans hBw h2.1.size
  clear h1 h2
  go_wp2_with fail
  have H1d := Lib.hid (SB.below H1.out ((Below.refl _ _).drew))
  have H2d := Lib.hid (H2.out.trans (keeps_drew B b w2))
  go_region_held3 (fun _ => True) (trivial)
    (first | (go_at_call 67; refine (sb_writeString B b _ _ _ H1d.out (by simp; omega) (by simp [zHI, zLO]; decide) hB2).mono ?_; rintro e w3 ⟨rfl, h3, h4⟩; have H3 := Lib.hid (h3.eq (l' := l ++ ctlB 25) (by rw [hex_list dHI dLO, List.append_assoc]; rfl)); have H4 := Lib.hid (H2d.out.trans h4); clear h3 h4))
  all_goals
    go_wp2_with fail
    go_end0
    exact ⟨rfl, H3.out, H4.out⟩
set_option maxRecDepth 100000 in
theorem sign26 : Sign 26 := by
  intro B b l w hS hl hBw
  have hbt : bits .and .u8 26 15 = 10 := by decide
  obtain ⟨HI, hHI, zHI, dHI⟩ := hex_enc 1 (by decide)
  obtain ⟨LO, hLO, zLO, dLO⟩ := hex_enc 10 (by decide)
  go_enter Tryz.func339, Tryz.ntmps339
  go_wp2_with fail
  refine (sb_writeByte B b l 92 _ hS.out (by omega) hBw (by omega) (by omega)).mono ?_; rintro e w2 ⟨rfl, h1, h2⟩
  have H1 := Lib.hid h1
  have H2 := Lib.hid h2
  have hB2 : B ≤ w2.heap.size := Nat.le_trans hBw h2.1.size
  clear h1 h2
  go_wp2_with fail
  have H1d := Lib.hid (SB.below H1.out ((Below.refl _ _).drew))
  have H2d := Lib.hid (H2.out.trans (keeps_drew B b w2))
  go_region_held3 (fun _ => True) (trivial)
    (first | (go_at_call 67; refine (sb_writeString B b _ _ _ H1d.out (by simp; omega) (by simp [zHI, zLO]; decide) hB2).mono ?_; rintro e w3 ⟨rfl, h3, h4⟩; have H3 := Lib.hid (h3.eq (l' := l ++ ctlB 26) (by rw [hex_list dHI dLO, List.append_assoc]; rfl)); have H4 := Lib.hid (H2d.out.trans h4); clear h3 h4))
  all_goals
    go_wp2_with fail
    go_end0
    exact ⟨rfl, H3.out, H4.out⟩
set_option maxRecDepth 100000 in
theorem sign27 : Sign 27 := by
  intro B b l w hS hl hBw
  have hbt : bits .and .u8 27 15 = 11 := by decide
  obtain ⟨HI, hHI, zHI, dHI⟩ := hex_enc 1 (by decide)
  obtain ⟨LO, hLO, zLO, dLO⟩ := hex_enc 11 (by decide)
  go_enter Tryz.func339, Tryz.ntmps339
  go_wp2_with fail
  refine (sb_writeByte B b l 92 _ hS.out (by omega) hBw (by omega) (by omega)).mono ?_; rintro e w2 ⟨rfl, h1, h2⟩
  have H1 := Lib.hid h1
  have H2 := Lib.hid h2
  have hB2 : B ≤ w2.heap.size := Nat.le_trans hBw h2.1.size
  clear h1 h2
  go_wp2_with fail
  have H1d := Lib.hid (SB.below H1.out ((Below.refl _ _).drew))
  have H2d := Lib.hid (H2.out.trans (keeps_drew B b w2))
  go_region_held3 (fun _ => True) (trivial)
    (first | (go_at_call 67; refine (sb_writeString B b _ _ _ H1d.out (by simp; omega) (by simp [zHI, zLO]; decide) hB2).mono ?_; rintro e w3 ⟨rfl, h3, h4⟩; have H3 := Lib.hid (h3.eq (l' := l ++ ctlB 27) (by rw [hex_list dHI dLO, List.append_assoc]; rfl)); have H4 := Lib.hid (H2d.out.trans h4); clear h3 h4))
  all_goals
    go_wp2_with fail
    go_end0
    exact ⟨rfl, H3.out, H4.out⟩
set_option maxRecDepth 100000 in
theorem sign28 : Sign 28 := by
  intro B b l w hS hl hBw
  have hbt : bits .and .u8 28 15 = 12 := by decide
  obtain ⟨HI, hHI, zHI, dHI⟩ := hex_enc 1 (by decide)
  obtain ⟨LO, hLO, zLO, dLO⟩ := hex_enc 12 (by decide)
  go_enter Tryz.func339, Tryz.ntmps339
  go_wp2_with fail
  refine (sb_writeByte B b l 92 _ hS.out (by omega) hBw (by omega) (by omega)).mono ?_; rintro e w2 ⟨rfl, h1, h2⟩
  have H1 := Lib.hid h1
  have H2 := Lib.hid h2
  have hB2 : B ≤ w2.heap.size := Nat.le_trans hBw h2.1.size
  clear h1 h2
  go_wp2_with fail
  have H1d := Lib.hid (SB.below H1.out ((Below.refl _ _).drew))
  have H2d := Lib.hid (H2.out.trans (keeps_drew B b w2))
  go_region_held3 (fun _ => True) (trivial)
    (first | (go_at_call 67; refine (sb_writeString B b _ _ _ H1d.out (by simp; omega) (by simp [zHI, zLO]; decide) hB2).mono ?_; rintro e w3 ⟨rfl, h3, h4⟩; have H3 := Lib.hid (h3.eq (l' := l ++ ctlB 28) (by rw [hex_list dHI dLO, List.append_assoc]; rfl)); have H4 := Lib.hid (H2d.out.trans h4); clear h3 h4))
  all_goals
    go_wp2_with fail
    go_end0
    exact ⟨rfl, H3.out, H4.out⟩
set_option maxRecDepth 100000 in
theorem sign29 : Sign 29 := by
  intro B b l w hS hl hBw
  have hbt : bits .and .u8 29 15 = 13 := by decide
  obtain ⟨HI, hHI, zHI, dHI⟩ := hex_enc 1 (by decide)
  obtain ⟨LO, hLO, zLO, dLO⟩ := hex_enc 13 (by decide)
  go_enter Tryz.func339, Tryz.ntmps339
  go_wp2_with fail
  refine (sb_writeByte B b l 92 _ hS.out (by omega) hBw (by omega) (by omega)).mono ?_; rintro e w2 ⟨rfl, h1, h2⟩
  have H1 := Lib.hid h1
  have H2 := Lib.hid h2
  have hB2 : B ≤ w2.heap.size := Nat.le_trans hBw h2.1.size
  clear h1 h2
  go_wp2_with fail
  have H1d := Lib.hid (SB.below H1.out ((Below.refl _ _).drew))
  have H2d := Lib.hid (H2.out.trans (keeps_drew B b w2))
  go_region_held3 (fun _ => True) (trivial)
    (first | (go_at_call 67; refine (sb_writeString B b _ _ _ H1d.out (by simp; omega) (by simp [zHI, zLO]; decide) hB2).mono ?_; rintro e w3 ⟨rfl, h3, h4⟩; have H3 := Lib.hid (h3.eq (l' := l ++ ctlB 29) (by rw [hex_list dHI dLO, List.append_assoc]; rfl)); have H4 := Lib.hid (H2d.out.trans h4); clear h3 h4))
  all_goals
    go_wp2_with fail
    go_end0
    exact ⟨rfl, H3.out, H4.out⟩
set_option maxRecDepth 100000 in
theorem sign30 : Sign 30 := by
  intro B b l w hS hl hBw
  have hbt : bits .and .u8 30 15 = 14 := by decide
  obtain ⟨HI, hHI, zHI, dHI⟩ := hex_enc 1 (by decide)
  obtain ⟨LO, hLO, zLO, dLO⟩ := hex_enc 14 (by decide)
  go_enter Tryz.func339, Tryz.ntmps339
  go_wp2_with fail
  refine (sb_writeByte B b l 92 _ hS.out (by omega) hBw (by omega) (by omega)).mono ?_; rintro e w2 ⟨rfl, h1, h2⟩
  have H1 := Lib.hid h1
  have H2 := Lib.hid h2
  have hB2 : B ≤ w2.heap.size := Nat.le_trans hBw h2.1.size
  clear h1 h2
  go_wp2_with fail
  have H1d := Lib.hid (SB.below H1.out ((Below.refl _ _).drew))
  have H2d := Lib.hid (H2.out.trans (keeps_drew B b w2))
  go_region_held3 (fun _ => True) (trivial)
    (first | (go_at_call 67; refine (sb_writeString B b _ _ _ H1d.out (by simp; omega) (by simp [zHI, zLO]; decide) hB2).mono ?_; rintro e w3 ⟨rfl, h3, h4⟩; have H3 := Lib.hid (h3.eq (l' := l ++ ctlB 30) (by rw [hex_list dHI dLO, List.append_assoc]; rfl)); have H4 := Lib.hid (H2d.out.trans h4); clear h3 h4))
  all_goals
    go_wp2_with fail
    go_end0
    exact ⟨rfl, H3.out, H4.out⟩
set_option maxRecDepth 100000 in
theorem sign31 : Sign 31 := by
  intro B b l w hS hl hBw
  have hbt : bits .and .u8 31 15 = 15 := by decide
  obtain ⟨HI, hHI, zHI, dHI⟩ := hex_enc 1 (by decide)
  obtain ⟨LO, hLO, zLO, dLO⟩ := hex_enc 15 (by decide)
  go_enter Tryz.func339, Tryz.ntmps339
  go_wp2_with fail
  refine (sb_writeByte B b l 92 _ hS.out (by omega) hBw (by omega) (by omega)).mono ?_; rintro e w2 ⟨rfl, h1, h2⟩
  have H1 := Lib.hid h1
  have H2 := Lib.hid h2
  have hB2 : B ≤ w2.heap.size := Nat.le_trans hBw h2.1.size
  clear h1 h2
  go_wp2_with fail
  have H1d := Lib.hid (SB.below H1.out ((Below.refl _ _).drew))
  have H2d := Lib.hid (H2.out.trans (keeps_drew B b w2))
  go_region_held3 (fun _ => True) (trivial)
    (first | (go_at_call 67; refine (sb_writeString B b _ _ _ H1d.out (by simp; omega) (by simp [zHI, zLO]; decide) hB2).mono ?_; rintro e w3 ⟨rfl, h3, h4⟩; have H3 := Lib.hid (h3.eq (l' := l ++ ctlB 31) (by rw [hex_list dHI dLO, List.append_assoc]; rfl)); have H4 := Lib.hid (H2d.out.trans h4); clear h3 h4))
  all_goals
    go_wp2_with fail
    go_end0
    exact ⟨rfl, H3.out, H4.out⟩
theorem sign_any (c : Nat) (hc : c < 32) : Sign c := by
  have : c = 0 ∨ c = 1 ∨ c = 2 ∨ c = 3 ∨ c = 4 ∨ c = 5 ∨ c = 6 ∨ c = 7 ∨ c = 8 ∨ c = 9 ∨ c = 10 ∨ c = 11 ∨ c = 12 ∨ c = 13 ∨ c = 14 ∨ c = 15 ∨ c = 16 ∨ c = 17 ∨ c = 18 ∨ c = 19 ∨ c = 20 ∨ c = 21 ∨ c = 22 ∨ c = 23 ∨ c = 24 ∨ c = 25 ∨ c = 26 ∨ c = 27 ∨ c = 28 ∨ c = 29 ∨ c = 30 ∨ c = 31 := by omega
  rcases this with rfl | rfl | rfl | rfl | rfl | rfl | rfl | rfl | rfl | rfl | rfl | rfl | rfl | rfl | rfl | rfl | rfl | rfl | rfl | rfl | rfl | rfl | rfl | rfl | rfl | rfl | rfl | rfl | rfl | rfl | rfl | rfl
  · exact sign0
  · exact sign1
  · exact sign2
  · exact sign3
  · exact sign4
  · exact sign5
  · exact sign6
  · exact sign7
  · exact sign8
  · exact sign9
  · exact sign10
  · exact sign11
  · exact sign12
  · exact sign13
  · exact sign14
  · exact sign15
  · exact sign16
  · exact sign17
  · exact sign18
  · exact sign19
  · exact sign20
  · exact sign21
  · exact sign22
  · exact sign23
  · exact sign24
  · exact sign25
  · exact sign26
  · exact sign27
  · exact sign28
  · exact sign29
  · exact sign30
  · exact sign31
end Go.Proofs.YtjelneeeijjpiaaGreatDoor.Tx
end
