/- TopText: walks and plain laws, part 16: lemmas on what the functions that the law comes to compute. -/
import Derived.Test.YtjelneeeijjpiaaGreatDoorG15
import Derived.Test.YtjelneeeijjpiaaGreatDoorG14
import Derived.Test.YtjelneeeijjpiaaGreatDoorG10
import Derived.Test.YtjelneeeijjpiaaGreatDoorG11
set_option linter.unusedVariables false
set_option linter.unusedSimpArgs false
section
namespace Go.Proofs.YtjelneeeijjpiaaGreatDoor
open Go.RowKit
open Go.Proofs.Le Go.Proofs.Lw
open Tx
theorem ustep_le (st b : Int) : ustep st b ≤ 8 := by
  unfold ustep unext ufirst
  repeat' split
  all_goals omega
theorem u8_eq {c : UInt8} {n : UInt8} (h : (c.toNat : Int) = (n.toNat : Nat)) : c = n := UInt8.toNat_inj.1 (by omega)
set_option maxRecDepth 100000 in
set_option maxHeartbeats 2000000 in
theorem str_any (s : ByteArray) (k : Nat) (sl : Value) (d m : Int) (x : Nat) (l r : List UInt8) (hs : s.size ≤ 100000) (hl : s.data.toList.drop k = 34 :: (l ++ r)) (hx : Sx 0 l) (w : World) (h : Sc s k sl d m x w) : Calls Tryz.prog 113 #[.pointer (some ⟨x, 0, none⟩)] w fun e w' => Sto w (.bool true) s (k + 1 + l.length) sl d m x e w' := by
  obtain ⟨hk, hb, hd⟩ := drop_at _ _ _ _ hl
  have hc : ((s[k]'hk).toNat : Int) = 34 := by rw [hb]; rfl
  have HD : Hid (s.data.toList.drop (k + 1) = l ++ r) := Lib.hid hd
  clear hb hd hl
  go_enter Tryz.func113, Tryz.ntmps113
  go_wp2_with fail
  refine wp_scope_pass (fun q l' a w' => l' = 0 ∧ ∃ (st : Int) (j : Nat) (y : List UInt8), q = y.length ∧ Sx st y ∧ Hid (s.data.toList.drop j = y ++ r) ∧ Hid (j + y.length = k + 1 + l.length) ∧ Sc s j sl d m x w' ∧ Oth w w' x x ∧ (∃ u1 u2 u4 u5 u6 u7 u8 u9 u10 u11 u12 u13 u14 u15 u16 u17 u18 u19 u20 u21 u22 u23 u24 u25 u26 u27 u28 u29 u30 u31 u32 u33 u34 u35 u36 u37 u38 u39 u40 u41 u42 u43 u44 u45 u46 u47 u48 u49 u50 u51 u52 u53 u54 u55 u56 u57 u58 u59 u60 u61 u62 u63 u64 u65 u66 u67 u68 u69 u70 u71 u72 u73 u74 u75 u76 : Value, a = { tmps := #[.pointer (some ⟨x, 0, none⟩), u1, u2, .int .i64 st, u4, u5, u6, u7, u8, u9, u10, u11, u12, u13, u14, u15, u16, u17, u18, u19, u20, u21, u22, u23, u24, u25, u26, u27, u28, u29, u30, u31, u32, u33, u34, u35, u36, u37, u38, u39, u40, u41, u42, u43, u44, u45, u46, u47, u48, u49, u50, u51, u52, u53, u54, u55, u56, u57, u58, u59, u60, u61, u62, u63, u64, u65, u66, u67, u68, u69, u70, u71, u72, u73, u74, u75, u76], defers := [] })) (l.length + 1) ?_ ?_
  · rintro q l' a w' ⟨rfl, st, j, y, rfl, hy, hD, hL, hS, hO, hJ⟩
    obtain ⟨u1, u2, u4, u5, u6, u7, u8, u9, u10, u11, u12, u13, u14, u15, u16, u17, u18, u19, u20, u21, u22, u23, u24, u25, u26, u27, u28, u29, u30, u31, u32, u33, u34, u35, u36, u37, u38, u39, u40, u41, u42, u43, u44, u45, u46, u47, u48, u49, u50, u51, u52, u53, u54, u55, u56, u57, u58, u59, u60, u61, u62, u63, u64, u65, u66, u67, u68, u69, u70, u71, u72, u73, u74, u75, u76, rfl⟩ := hJ
    refine ⟨_, rfl, ?_⟩
    clear h hc HD hx
    cases hy with
    | mark =>
      obtain ⟨hj, hb, hD2⟩ := drop_at s j 34 (r) hD.out
      have hc : ((s[j]'hj).toNat : Int) = 34 := by rw [hb]; rfl
      have he : ((j : Int) == (s.size : Int)) = false := by rw [beq_eq_false_iff_ne]; omega
      have hji : (j : Int) < (s.size : Int) := by omega
      have HD2 := Lib.hid hD2
      clear hb hD2 hD
      have xlt := hS.lt
      have xlt1 : x < w'.heap.size + 1 := by omega
      have xlt2 : x < w'.heap.size + 1 + 1 := by omega
      have xlt3 : x < w'.heap.size + 1 + 1 + 1 := by omega
      have x0 := hS.c0
      have x1 := hS.c1
      have x2 := hS.c2
      have x3 := hS.c3
      have x4 := hS.c4
      have xz1 := hS.z1
      have xz2 := hS.z2
      have xz3 := hS.z3
      have xz4 := hS.z4
      go_wp2_with fail
      go_quiet (fail)
      go_wp2_with fail
      go_quiet (fail)
      go_wp2_with fail
      rw [jumps_ret]
      go_ret
      have e : k + 1 + l.length = j + 1 := by have := hL.out; simp at this; omega
      rw [e]
      exact ⟨rfl, (hS.drewN _).setK (j + 1), (hO.trans (Oth.drewN _ _ _ _)).trans (Oth.setP _ _ _ _ _)⟩
    | esc c y hB hy =>
      obtain ⟨hj, hb, hD2⟩ := drop_at s j 92 (c :: (y ++ r)) hD.out
      have hc : ((s[j]'hj).toNat : Int) = 92 := by rw [hb]; rfl
      have he : ((j : Int) == (s.size : Int)) = false := by rw [beq_eq_false_iff_ne]; omega
      have hji : (j : Int) < (s.size : Int) := by omega
      have HD2 := Lib.hid hD2
      clear hb hD2 hD
      have xlt := hS.lt
      have xlt1 : x < w'.heap.size + 1 := by omega
      have xlt2 : x < w'.heap.size + 1 + 1 := by omega
      have xlt3 : x < w'.heap.size + 1 + 1 + 1 := by omega
      have x0 := hS.c0
      have x1 := hS.c1
      have x2 := hS.c2
      have x3 := hS.c3
      have x4 := hS.c4
      have xz1 := hS.z1
      have xz2 := hS.z2
      have xz3 := hS.z3
      have xz4 := hS.z4
      obtain ⟨hj1, hb1, hD3⟩ := drop_at s (j + 1) c (y ++ r) HD2.out
      go_wp2_with fail
      go_quiet (fail)
      go_wp2_with fail
      go_quiet (fail)
      go_wp2_with fail
      generalize hW : World.setCell _ _ _ = W
      have S1 : Sc s (j + 1) sl d m x W := by rw [← hW]; exact (hS.drewN _).setK (j + 1)
      have O1 : Oth w W x x := by rw [← hW]; exact (hO.trans (Oth.drewN _ _ _ _)).trans (Oth.setP _ _ _ _ _)
      refine (esc_sim s (j + 1) sl d m c x hs hj1 hb1 hB _ S1).mono ?_; rintro e w2 ⟨rfl, S2, O2⟩
      clear hb1
      go_wp2_with fail
      go_step3
      exact ⟨_, by simp only [List.length_cons]; omega, rfl, _, j + 2, y, rfl, hy, Lib.hid hD3, Lib.hid (by have := hL.out; simp at this; omega), S2, O1.trans O2, _, _, _, _, _, _, _, _, _, _, _, _, _, _, _, _, _, _, _, _, _, _, _, _, _, _, _, _, _, _, _, _, _, _, _, _, _, _, _, _, _, _, _, _, _, _, _, _, _, _, _, _, _, _, _, _, _, _, _, _, _, _, _, _, _, _, _, _, _, _, _, _, _, _, _, rfl⟩
    | uni a b c d' y xa xb xc xd hy =>
      obtain ⟨hj, hb, hD2⟩ := drop_at s j 92 (117 :: a :: b :: c :: d' :: (y ++ r)) hD.out
      have hc : ((s[j]'hj).toNat : Int) = 92 := by rw [hb]; rfl
      have he : ((j : Int) == (s.size : Int)) = false := by rw [beq_eq_false_iff_ne]; omega
      have hji : (j : Int) < (s.size : Int) := by omega
      have HD2 := Lib.hid hD2
      clear hb hD2 hD
      have xlt := hS.lt
      have xlt1 : x < w'.heap.size + 1 := by omega
      have xlt2 : x < w'.heap.size + 1 + 1 := by omega
      have xlt3 : x < w'.heap.size + 1 + 1 + 1 := by omega
      have x0 := hS.c0
      have x1 := hS.c1
      have x2 := hS.c2
      have x3 := hS.c3
      have x4 := hS.c4
      have xz1 := hS.z1
      have xz2 := hS.z2
      have xz3 := hS.z3
      have xz4 := hS.z4
      obtain ⟨hj1, hb1, hD3⟩ := drop_at s (j + 1) _ _ HD2.out
      obtain ⟨hj2, hb2, hD4⟩ := drop_at s (j + 1 + 1) _ _ hD3
      obtain ⟨hj3, hb3, hD5⟩ := drop_at s (j + 1 + 2) _ _ hD4
      obtain ⟨hj4, hb4, hD6⟩ := drop_at s (j + 1 + 3) _ _ hD5
      obtain ⟨hj5, hb5, hD7⟩ := drop_at s (j + 1 + 4) _ _ hD6
      go_wp2_with fail
      go_quiet (fail)
      go_wp2_with fail
      go_quiet (fail)
      go_wp2_with fail
      generalize hW : World.setCell _ _ _ = W
      have S1 : Sc s (j + 1) sl d m x W := by rw [← hW]; exact (hS.drewN _).setK (j + 1)
      have O1 : Oth w W x x := by rw [← hW]; exact (hO.trans (Oth.drewN _ _ _ _)).trans (Oth.setP _ _ _ _ _)
      refine (esc_uni s (j + 1) sl d m x hs hj1 hb1 a b c d' hj2 hj3 hj4 hj5 hb2 xa hb3 xb hb4 xc hb5 xd _ S1).mono ?_; rintro e w2 ⟨rfl, S2, O2⟩
      clear hb1 hb2 hb3 hb4 hb5 hD3 hD4 hD5 hD6
      have HD7 := Lib.hid hD7
      clear hD7
      go_wp2_with fail
      go_step3
      exact ⟨_, by simp only [List.length_cons]; omega, rfl, _, j + 6, y, rfl, hy, Lib.hid HD7.out, Lib.hid (by have := hL.out; simp at this; omega), S2, O1.trans O2, _, _, _, _, _, _, _, _, _, _, _, _, _, _, _, _, _, _, _, _, _, _, _, _, _, _, _, _, _, _, _, _, _, _, _, _, _, _, _, _, _, _, _, _, _, _, _, _, _, _, _, _, _, _, _, _, _, _, _, _, _, _, _, _, _, _, _, _, _, _, _, _, _, _, _, rfl⟩
    | byte st c y h0 h8 hy =>
      obtain ⟨hj, hb, hD2⟩ := drop_at s j c (y ++ r) hD.out
      have hc : ((s[j]'hj).toNat : Int) = (c.toNat : Nat) := by rw [hb]
      have he : ((j : Int) == (s.size : Int)) = false := by rw [beq_eq_false_iff_ne]; omega
      have hji : (j : Int) < (s.size : Int) := by omega
      have HD2 := Lib.hid hD2
      clear hb hD2 hD
      have xlt := hS.lt
      have xlt1 : x < w'.heap.size + 1 := by omega
      have xlt2 : x < w'.heap.size + 1 + 1 := by omega
      have xlt3 : x < w'.heap.size + 1 + 1 + 1 := by omega
      have x0 := hS.c0
      have x1 := hS.c1
      have x2 := hS.c2
      have x3 := hS.c3
      have x4 := hS.c4
      have xz1 := hS.z1
      have xz2 := hS.z2
      have xz3 := hS.z3
      have xz4 := hS.z4
      have hu := u8_le c
      obtain ⟨v, hv⟩ : ∃ v, ustep st c.toNat = v := ⟨_, rfl⟩
      have hv7 : ¬ 7 < v := by have := ustep_le st c.toNat; rw [hv] at this h8; omega
      have hT := fun W => step_any st (c.toNat : Nat) W (by omega) (by omega)
      rw [hv] at h8 hy hT
      have H8 := Lib.hid h8
      clear hv h8
      by_cases hst : st = 0
      · subst hst
        obtain ⟨h32, h34, h92⟩ := h0 rfl
        have d1 : ¬ (c.toNat : Int) < 32 := by omega
        have d2 : ((c.toNat : Int) == 34) = false := by rw [beq_eq_false_iff_ne]; exact fun e => h34 (u8_eq e)
        have d3 : ((c.toNat : Int) == 92) = false := by rw [beq_eq_false_iff_ne]; exact fun e => h92 (u8_eq e)
        clear h0 h34 h92
        go_wp2_with fail
        go_quiet (fail)
        go_wp2_with fail
        go_quiet (fail)
        go_wp2_with (go_at_call 164; refine (hT _).mono ?_; rintro e w2 ⟨rfl, rfl⟩)
        go_step3
        exact ⟨_, by simp only [List.length_cons]; omega, rfl, _, j + 1, y, rfl, hy, Lib.hid HD2.out, Lib.hid (by have := hL.out; simp at this; omega), (hS.drewN _).setK (j + 1), (hO.trans (Oth.drewN _ _ _ _)).trans (Oth.setP _ _ _ _ _), _, _, _, _, _, _, _, _, _, _, _, _, _, _, _, _, _, _, _, _, _, _, _, _, _, _, _, _, _, _, _, _, _, _, _, _, _, _, _, _, _, _, _, _, _, _, _, _, _, _, _, _, _, _, _, _, _, _, _, _, _, _, _, _, _, _, _, _, _, _, _, _, _, _, _, rfl⟩
      · have d1 : (st == 0) = false := by rw [beq_eq_false_iff_ne]; exact hst
        clear h0 hst
        go_wp2_with fail
        go_quiet (fail)
        go_wp2_with fail
        go_quiet (fail)
        go_wp2_with (go_at_call 164; refine (hT _).mono ?_; rintro e w2 ⟨rfl, rfl⟩)
        go_step3
        exact ⟨_, by simp only [List.length_cons]; omega, rfl, _, j + 1, y, rfl, hy, Lib.hid HD2.out, Lib.hid (by have := hL.out; simp at this; omega), (hS.drewN _).setK (j + 1), (hO.trans (Oth.drewN _ _ _ _)).trans (Oth.setP _ _ _ _ _), _, _, _, _, _, _, _, _, _, _, _, _, _, _, _, _, _, _, _, _, _, _, _, _, _, _, _, _, _, _, _, _, _, _, _, _, _, _, _, _, _, _, _, _, _, _, _, _, _, _, _, _, _, _, _, _, _, _, _, _, _, _, _, _, _, _, _, _, _, _, _, _, _, _, _, rfl⟩
  · intro hin
    have xlt := h.lt
    have xlt1 : x < w.heap.size + 1 := by omega
    have xlt2 : x < w.heap.size + 1 + 1 := by omega
    have xlt3 : x < w.heap.size + 1 + 1 + 1 := by omega
    have x0 := h.c0
    have x1 := h.c1
    have x2 := h.c2
    have x3 := h.c3
    have x4 := h.c4
    have xz1 := h.z1
    have xz2 := h.z2
    have xz3 := h.z3
    have xz4 := h.z4
    go_wp2_with fail
    refine (take_q s k sl d m x hs hk hc _ h).mono ?_; rintro e w1 ⟨rfl, S1, O1⟩
    go_wp2_with fail
    go_step3
    rename_i hK
    exact hK _ _ <| hin l.length 0 _ _ _ (by omega) rfl ⟨rfl, 0, k + 1, l, rfl, hx, HD, Lib.hid rfl, S1, O1, _, _, _, _, _, _, _, _, _, _, _, _, _, _, _, _, _, _, _, _, _, _, _, _, _, _, _, _, _, _, _, _, _, _, _, _, _, _, _, _, _, _, _, _, _, _, _, _, _, _, _, _, _, _, _, _, _, _, _, _, _, _, _, _, _, _, _, _, _, _, _, _, _, _, _, rfl⟩
end Go.Proofs.YtjelneeeijjpiaaGreatDoor
end
section
namespace Go.Proofs.YtjelneeeijjpiaaGreatDoor
open Go.RowKit
open Go.Proofs.Le Go.Proofs.Lw
def LfS (T : ByteArray) (L : Nat) : Prop := ∀ (sl : Value) (d m : Int) (x : Nat) (W : World), Sc T 1 sl d m x W → Calls Tryz.prog 112 #[.pointer (some ⟨x, 0, none⟩)] W fun e w' => Sto W (.bool true) T L sl d m x e w'
set_option maxRecDepth 100000 in
set_option maxHeartbeats 2000000 in
theorem leafS (s : ByteArray) (k : Nat) (sl : Value) (d m : Int) (x : Nat) (l r : List UInt8) (hs : s.size ≤ 100000) (hl : s.data.toList.drop k = 34 :: (l ++ r)) (hx : Sx 0 l) (w : World) (h : Sc s k sl d m x w) : Calls Tryz.prog 112 #[.pointer (some ⟨x, 0, none⟩)] w fun e w' => Sto w (.bool true) s (k + 1 + l.length) sl d m x e w' := by
  obtain ⟨hk, hb, hd⟩ := drop_at _ _ _ _ hl
  have hc : ((s[k]'hk).toNat : Int) = 34 := by rw [hb]; rfl
  have HL := Lib.hid hl
  clear hb hd hl
  go_enter Tryz.func112, Tryz.ntmps112
  go_wp2_with fail
  refine (next_v s k sl d m 34 x hs hk hc _ h).mono ?_; rintro e w1 ⟨rfl, m1, hw⟩
  have S1 : Sc s (k) sl d m x w1 := by rw [hw]; exact Sc.drewN h _
  have O1 : Oth w w1 x x := by rw [hw]; exact Oth.trans (Oth.refl w x x) (Oth.drewN _ _ _ _)
  clear hw
  go_wp2_with fail
  refine (str_any s k sl d m x l r hs HL.out hx _ S1).mono ?_; rintro e w2 ⟨rfl, S2, P2⟩
  have O2 : Oth w w2 x x := Oth.trans O1 P2
  go_wp2_with fail
  go_ret
  exact ⟨rfl, S2, O2⟩
theorem lfS_s (T : ByteArray) (L : Nat) (l r : List UInt8) (hs : T.size ≤ 100000) (hl : T.data.toList.drop 1 = 34 :: (l ++ r)) (hx : Sx 0 l) (hL : 2 + l.length = L) : LfS T L := fun sl d m x W h => by
  have := leafS T 1 sl d m x l r hs hl hx W h
  rw [show 1 + 1 + l.length = L by omega] at this
  exact this
abbrev n5 : ByteArray := ⟨#[91, 53, 93]⟩
theorem n5_1 (h : 1 < n5.size) : ((n5[1]'h).toNat : Int) = 53 := rfl
theorem n5_2 (h : 2 < n5.size) : ((n5[2]'h).toNat : Int) = 93 := rfl
theorem n5_s : n5.size ≤ 100000 := by decide
set_option maxRecDepth 100000 in
set_option maxHeartbeats 2000000 in
theorem digits_5 (sl : Value) (d m : Int) (x : Nat) (w : World) (h : Sc n5 1 sl d m x w) : Calls Tryz.prog 217 #[.pointer (some ⟨x, 0, none⟩)] w fun e w' => Sto w (.bool true) n5 2 sl d m x e w' := by
  go_enter Tryz.func217, Tryz.ntmps217
  have xlt := h.lt
  have xlt1 : x < w.heap.size + 1 := by omega
  have xlt2 : x < w.heap.size + 1 + 1 := by omega
  have xlt3 : x < w.heap.size + 1 + 1 + 1 := by omega
  have x0 := h.c0
  have x1 := h.c1
  have x2 := h.c2
  have x3 := h.c3
  have x4 := h.c4
  have xz1 := h.z1
  have xz2 := h.z2
  have xz3 := h.z3
  have xz4 := h.z4
  go_wp2_with fail
  refine (next_v n5 1 sl d m 53 x n5_s (by decide) (n5_1 _) _ h).mono ?_; rintro e w1 ⟨rfl, m1, hw⟩
  have S1 : Sc n5 (1) sl d m x w1 := by rw [hw]; exact Sc.drewN h _
  have O1 : Oth w w1 x x := by rw [hw]; exact Oth.trans (Oth.refl w x x) (Oth.drewN _ _ _ _)
  clear hw
  clear xlt xlt1 xlt2 xlt3 x0 x1 x2 x3 x4 xz1 xz2 xz3 xz4
  have xlt := S1.lt
  have xlt1 : x < w1.heap.size + 1 := by omega
  have xlt2 : x < w1.heap.size + 1 + 1 := by omega
  have xlt3 : x < w1.heap.size + 1 + 1 + 1 := by omega
  have x0 := S1.c0
  have x1 := S1.c1
  have x2 := S1.c2
  have x3 := S1.c3
  have x4 := S1.c4
  have xz1 := S1.z1
  have xz2 := S1.z2
  have xz3 := S1.z3
  have xz4 := S1.z4
  go_wp2_with (first | (refine wp_loop_unr 4 ?_; refine Unr.step ?_; intro U hU) | (refine Unr.step ?_; intro U hU))
  generalize hW : World.setCell _ _ _ = W
  have S5 : Sc n5 2 sl d m x W := by rw [← hW]; exact Sc.setK S1 2
  have O5 : Oth w W x x := by rw [← hW]; exact Oth.trans O1 (Oth.setP _ _ _ _ _)
  clear hW
  clear xlt xlt1 xlt2 xlt3 x0 x1 x2 x3 x4 xz1 xz2 xz3 xz4
  refine (next_v n5 2 sl d m 93 x n5_s (by decide) (n5_2 _) _ S5).mono ?_; rintro e w6 ⟨rfl, m6, hw⟩
  have S6 : Sc n5 (2) sl d m x w6 := by rw [hw]; exact Sc.drewN S5 _
  have O6 : Oth w w6 x x := by rw [hw]; exact Oth.trans O5 (Oth.drewN _ _ _ _)
  clear hw
  have xlt := S6.lt
  have xlt1 : x < w6.heap.size + 1 := by omega
  have xlt2 : x < w6.heap.size + 1 + 1 := by omega
  have xlt3 : x < w6.heap.size + 1 + 1 + 1 := by omega
  have x0 := S6.c0
  have x1 := S6.c1
  have x2 := S6.c2
  have x3 := S6.c3
  have x4 := S6.c4
  have xz1 := S6.z1
  have xz2 := S6.z2
  have xz3 := S6.z3
  have xz4 := S6.z4
  go_wp2_with (first | (refine wp_loop_unr 4 ?_; refine Unr.step ?_; intro U hU) | (refine Unr.step ?_; intro U hU))
  go_ret
  exact ⟨rfl, S6, O6⟩
set_option maxRecDepth 100000 in
set_option maxHeartbeats 2000000 in
theorem number_5 (sl : Value) (d m : Int) (x : Nat) (w : World) (h : Sc n5 1 sl d m x w) : Calls Tryz.prog 162 #[.pointer (some ⟨x, 0, none⟩)] w fun e w' => Sto w (.bool true) n5 2 sl d m x e w' := by
  go_enter Tryz.func162, Tryz.ntmps162
  go_wp2_with fail
  refine (next_v n5 1 sl d m 53 x n5_s (by decide) (n5_1 _) _ h).mono ?_; rintro e w1 ⟨rfl, m1, hw⟩
  have S1 : Sc n5 (1) sl d m x w1 := by rw [hw]; exact Sc.drewN h _
  have O1 : Oth w w1 x x := by rw [hw]; exact Oth.trans (Oth.refl w x x) (Oth.drewN _ _ _ _)
  clear hw
  go_wp2_with fail
  refine (next_v n5 1 sl d m 53 x n5_s (by decide) (n5_1 _) _ S1).mono ?_; rintro e w2 ⟨rfl, m2, hw⟩
  have S2 : Sc n5 (1) sl d m x w2 := by rw [hw]; exact Sc.drewN S1 _
  have O2 : Oth w w2 x x := by rw [hw]; exact Oth.trans O1 (Oth.drewN _ _ _ _)
  clear hw
  go_wp2_with fail
  refine (digits_5 sl d m x _ S2).mono ?_; rintro e w3 ⟨rfl, S3, P3⟩
  have O3 : Oth w w3 x x := Oth.trans O2 P3
  go_wp2_with fail
  refine (next_v n5 2 sl d m 93 x n5_s (by decide) (n5_2 _) _ S3).mono ?_; rintro e w4 ⟨rfl, m4, hw⟩
  have S4 : Sc n5 (2) sl d m x w4 := by rw [hw]; exact Sc.drewN S3 _
  have O4 : Oth w w4 x x := by rw [hw]; exact Oth.trans O3 (Oth.drewN _ _ _ _)
  clear hw
  go_wp2_with fail
  refine (next_v n5 2 sl d m 93 x n5_s (by decide) (n5_2 _) _ S4).mono ?_; rintro e w5 ⟨rfl, m5, hw⟩
  have S5 : Sc n5 (2) sl d m x w5 := by rw [hw]; exact Sc.drewN S4 _
  have O5 : Oth w w5 x x := by rw [hw]; exact Oth.trans O4 (Oth.drewN _ _ _ _)
  clear hw
  go_wp2_with fail
  go_ret
  exact ⟨rfl, S5, O5⟩
set_option maxRecDepth 100000 in
set_option maxHeartbeats 2000000 in
theorem lf5 (sl : Value) (d m : Int) (x : Nat) (w : World) (h : Sc n5 1 sl d m x w) : Calls Tryz.prog 112 #[.pointer (some ⟨x, 0, none⟩)] w fun e w' => Sto w (.bool true) n5 2 sl d m x e w' := by
  go_enter Tryz.func112, Tryz.ntmps112
  go_wp2_with fail
  refine (next_v n5 1 sl d m 53 x n5_s (by decide) (n5_1 _) _ h).mono ?_; rintro e w1 ⟨rfl, m1, hw⟩
  have S1 : Sc n5 (1) sl d m x w1 := by rw [hw]; exact Sc.drewN h _
  have O1 : Oth w w1 x x := by rw [hw]; exact Oth.trans (Oth.refl w x x) (Oth.drewN _ _ _ _)
  clear hw
  go_wp2_with fail
  refine (number_5 sl d m x _ S1).mono ?_; rintro e w2 ⟨rfl, S2, P2⟩
  have O2 : Oth w w2 x x := Oth.trans O1 P2
  go_wp2_with fail
  go_ret
  exact ⟨rfl, S2, O2⟩
theorem lfS_5 : LfS n5 2 := fun sl d m x W h => lf5 sl d m x W h
set_option maxRecDepth 100000 in
set_option maxHeartbeats 2000000 in
theorem text_1 (T : ByteArray) (n L : Nat) (hn : T.size = n) (hL : L + 1 = n) (h3 : 3 ≤ n) (h1 : n < 1024) (k0 : 0 < T.size) (k1 : 1 < T.size) (kL : L < T.size) (c : Int) (c0 : ((T[0]'k0).toNat : Int) = 91) (c1 : ((T[1]'k1).toNat : Int) = c) (cL : ((T[L]'kL).toNat : Int) = 93) (hc : c ≠ 32 ∧ c ≠ 9 ∧ c ≠ 10 ∧ c ≠ 13) (hc2 : c ≠ 91 ∧ c ≠ 93 ∧ c ≠ 123) (hLf : LfS T L) (x : Nat) (w : World) (h : Sc T 0 (.slice none 0 0) 0 0 x w) : Calls Tryz.prog 71 #[.pointer (some ⟨x, 0, none⟩)] w fun e w' => ∃ g cc, Sto w (.bool true) T n (.slice (some ⟨g, 0, none⟩) 1 cc) 0 1 x e w' := by
  have hs : T.size ≤ 100000 := by omega
  have b1 : (c == 91) = false := by rw [beq_eq_false_iff_ne]; exact hc2.1
  have b2 : (c == 93) = false := by rw [beq_eq_false_iff_ne]; exact hc2.2.1
  have b3 : (c == 123) = false := by rw [beq_eq_false_iff_ne]; exact hc2.2.2
  have HN := Lib.hid hn
  have HL := Lib.hid hL
  clear hn hL hc2
  go_enter Tryz.func71, Tryz.ntmps71
  go_wp2_with (first | (refine wp_scope_lab 8 ?_; intro K hK) | (refine Lab.step _ rfl ?_; intro K hK) | (refine hK _ _ _ ?_; refine Lab.step _ rfl ?_; intro K hK) | simp only [jumps_goto, jumps_ret, jumps_normal] | simp only [Exit.then, Exit.inBlock, jumps_goto, jumps_ret, jumps_normal] | go_step3)
  refine (blanks_v T 0 (.slice none 0 0) 0 0 91 x hs k0 c0 (by decide) _ h).mono ?_; rintro e w1 ⟨rfl, m1, hw⟩
  have S1 : Sc T (0) (.slice none 0 0) 0 0 x w1 := by rw [hw]; exact Sc.drewN h _
  have O1 : Oth w w1 x x := by rw [hw]; exact Oth.trans (Oth.refl w x x) (Oth.drewN _ _ _ _)
  clear hw
  go_wp2_with (first | (refine wp_scope_lab 8 ?_; intro K hK) | (refine Lab.step _ rfl ?_; intro K hK) | (refine hK _ _ _ ?_; refine Lab.step _ rfl ?_; intro K hK) | simp only [jumps_goto, jumps_ret, jumps_normal] | simp only [Exit.then, Exit.inBlock, jumps_goto, jumps_ret, jumps_normal] | go_step3)
  refine (next_v T 0 (.slice none 0 0) 0 0 91 x hs k0 c0 _ S1).mono ?_; rintro e w2 ⟨rfl, m2, hw⟩
  have S2 : Sc T (0) (.slice none 0 0) 0 0 x w2 := by rw [hw]; exact Sc.drewN S1 _
  have O2 : Oth w w2 x x := by rw [hw]; exact Oth.trans O1 (Oth.drewN _ _ _ _)
  clear hw
  go_wp2_with (first | (refine wp_scope_lab 8 ?_; intro K hK) | (refine Lab.step _ rfl ?_; intro K hK) | (refine hK _ _ _ ?_; refine Lab.step _ rfl ?_; intro K hK) | simp only [jumps_goto, jumps_ret, jumps_normal] | simp only [Exit.then, Exit.inBlock, jumps_goto, jumps_ret, jumps_normal] | go_step3)
  refine (push_0 T 0 x hs k0 _ S2).mono ?_; rintro e w3 ⟨g, cc, ⟨rfl, S3, P3⟩, G3, hg⟩
  have O3 : Oth w w3 x x := Oth.trans O2 P3
  have hgx : g ≠ x := by have := S2.lt; omega
  go_wp2_with (first | (refine wp_scope_lab 8 ?_; intro K hK) | (refine Lab.step _ rfl ?_; intro K hK) | (refine hK _ _ _ ?_; refine Lab.step _ rfl ?_; intro K hK) | simp only [jumps_goto, jumps_ret, jumps_normal] | simp only [Exit.then, Exit.inBlock, jumps_goto, jumps_ret, jumps_normal] | go_step3)
  refine (blanks_v T 1 (.slice (some ⟨g, 0, none⟩) 1 cc) 1 1 c x hs k1 c1 hc _ S3).mono ?_; rintro e w4 ⟨rfl, m4, hw⟩
  have S4 : Sc T (1) (.slice (some ⟨g, 0, none⟩) 1 cc) 1 1 x w4 := by rw [hw]; exact Sc.drewN S3 _
  have O4 : Oth w w4 x x := by rw [hw]; exact Oth.trans O3 (Oth.drewN _ _ _ _)
  have G4 : St g w4 := by rw [hw]; exact St.drewN G3 _
  clear hw
  go_wp2_with (first | (refine wp_scope_lab 8 ?_; intro K hK) | (refine Lab.step _ rfl ?_; intro K hK) | (refine hK _ _ _ ?_; refine Lab.step _ rfl ?_; intro K hK) | simp only [jumps_goto, jumps_ret, jumps_normal] | simp only [Exit.then, Exit.inBlock, jumps_goto, jumps_ret, jumps_normal] | go_step3)
  refine (next_v T 1 (.slice (some ⟨g, 0, none⟩) 1 cc) 1 1 c x hs k1 c1 _ S4).mono ?_; rintro e w5 ⟨rfl, m5, hw⟩
  have S5 : Sc T (1) (.slice (some ⟨g, 0, none⟩) 1 cc) 1 1 x w5 := by rw [hw]; exact Sc.drewN S4 _
  have O5 : Oth w w5 x x := by rw [hw]; exact Oth.trans O4 (Oth.drewN _ _ _ _)
  have G5 : St g w5 := by rw [hw]; exact St.drewN G4 _
  clear hw
  go_wp2_with (first | (refine wp_scope_lab 8 ?_; intro K hK) | (refine Lab.step _ rfl ?_; intro K hK) | (refine hK _ _ _ ?_; refine Lab.step _ rfl ?_; intro K hK) | simp only [jumps_goto, jumps_ret, jumps_normal] | simp only [Exit.then, Exit.inBlock, jumps_goto, jumps_ret, jumps_normal] | go_step3)
  refine (blanks_v T 1 (.slice (some ⟨g, 0, none⟩) 1 cc) 1 1 c x hs k1 c1 hc _ S5).mono ?_; rintro e w6 ⟨rfl, m6, hw⟩
  have S6 : Sc T (1) (.slice (some ⟨g, 0, none⟩) 1 cc) 1 1 x w6 := by rw [hw]; exact Sc.drewN S5 _
  have O6 : Oth w w6 x x := by rw [hw]; exact Oth.trans O5 (Oth.drewN _ _ _ _)
  have G6 : St g w6 := by rw [hw]; exact St.drewN G5 _
  clear hw
  go_wp2_with (first | (refine wp_scope_lab 8 ?_; intro K hK) | (refine Lab.step _ rfl ?_; intro K hK) | (refine hK _ _ _ ?_; refine Lab.step _ rfl ?_; intro K hK) | simp only [jumps_goto, jumps_ret, jumps_normal] | simp only [Exit.then, Exit.inBlock, jumps_goto, jumps_ret, jumps_normal] | go_step3)
  refine (next_v T 1 (.slice (some ⟨g, 0, none⟩) 1 cc) 1 1 c x hs k1 c1 _ S6).mono ?_; rintro e w7 ⟨rfl, m7, hw⟩
  have S7 : Sc T (1) (.slice (some ⟨g, 0, none⟩) 1 cc) 1 1 x w7 := by rw [hw]; exact Sc.drewN S6 _
  have O7 : Oth w w7 x x := by rw [hw]; exact Oth.trans O6 (Oth.drewN _ _ _ _)
  have G7 : St g w7 := by rw [hw]; exact St.drewN G6 _
  clear hw
  go_wp2_with (first | (refine wp_scope_lab 8 ?_; intro K hK) | (refine Lab.step _ rfl ?_; intro K hK) | (refine hK _ _ _ ?_; refine Lab.step _ rfl ?_; intro K hK) | simp only [jumps_goto, jumps_ret, jumps_normal] | simp only [Exit.then, Exit.inBlock, jumps_goto, jumps_ret, jumps_normal] | go_step3)
  refine (hLf _ _ _ _ _ S7).mono ?_; rintro e w8 ⟨rfl, S8, P8⟩
  have O8 : Oth w w8 x x := Oth.trans O7 P8
  have G8 : St g w8 := G7.oth P8 hgx
  go_wp2_with (first | (refine wp_scope_lab 8 ?_; intro K hK) | (refine Lab.step _ rfl ?_; intro K hK) | (refine hK _ _ _ ?_; refine Lab.step _ rfl ?_; intro K hK) | simp only [jumps_goto, jumps_ret, jumps_normal] | simp only [Exit.then, Exit.inBlock, jumps_goto, jumps_ret, jumps_normal] | go_step3)
  refine (blanks_v T L (.slice (some ⟨g, 0, none⟩) 1 cc) 1 1 93 x hs kL cL (by decide) _ S8).mono ?_; rintro e w9 ⟨rfl, m9, hw⟩
  have S9 : Sc T (L) (.slice (some ⟨g, 0, none⟩) 1 cc) 1 1 x w9 := by rw [hw]; exact Sc.drewN S8 _
  have O9 : Oth w w9 x x := by rw [hw]; exact Oth.trans O8 (Oth.drewN _ _ _ _)
  have G9 : St g w9 := by rw [hw]; exact St.drewN G8 _
  clear hw
  have xlt := S9.lt
  have xlt1 : x < w9.heap.size + 1 := by omega
  have xlt2 : x < w9.heap.size + 1 + 1 := by omega
  have xlt3 : x < w9.heap.size + 1 + 1 + 1 := by omega
  have x0 := S9.c0
  have x1 := S9.c1
  have x2 := S9.c2
  have x3 := S9.c3
  have x4 := S9.c4
  have xz1 := S9.z1
  have xz2 := S9.z2
  have xz3 := S9.z3
  have xz4 := S9.z4
  go_wp2_with (first | (refine wp_scope_lab 8 ?_; intro K hK) | (refine Lab.step _ rfl ?_; intro K hK) | (refine hK _ _ _ ?_; refine Lab.step _ rfl ?_; intro K hK) | simp only [jumps_goto, jumps_ret, jumps_normal] | simp only [Exit.then, Exit.inBlock, jumps_goto, jumps_ret, jumps_normal] | go_step3)
  refine (next_v T L (.slice (some ⟨g, 0, none⟩) 1 cc) 1 1 93 x hs kL cL _ S9).mono ?_; rintro e w10 ⟨rfl, m10, hw⟩
  have S10 : Sc T (L) (.slice (some ⟨g, 0, none⟩) 1 cc) 1 1 x w10 := by rw [hw]; exact Sc.drewN S9 _
  have O10 : Oth w w10 x x := by rw [hw]; exact Oth.trans O9 (Oth.drewN _ _ _ _)
  have G10 : St g w10 := by rw [hw]; exact St.drewN G9 _
  clear hw
  clear xlt xlt1 xlt2 xlt3 x0 x1 x2 x3 x4 xz1 xz2 xz3 xz4
  go_wp2_with (first | (refine wp_scope_lab 8 ?_; intro K hK) | (refine Lab.step _ rfl ?_; intro K hK) | (refine hK _ _ _ ?_; refine Lab.step _ rfl ?_; intro K hK) | simp only [jumps_goto, jumps_ret, jumps_normal] | simp only [Exit.then, Exit.inBlock, jumps_goto, jumps_ret, jumps_normal] | go_step3)
  refine (object_0 T L g cc 1 x _ S10 G10).mono ?_; rintro e w11 ⟨rfl, m11, hw⟩
  have S11 : Sc T (L) (.slice (some ⟨g, 0, none⟩) 1 cc) 1 1 x w11 := by rw [hw]; exact Sc.drewN S10 _
  have O11 : Oth w w11 x x := by rw [hw]; exact Oth.trans O10 (Oth.drewN _ _ _ _)
  have G11 : St g w11 := by rw [hw]; exact St.drewN G10 _
  clear hw
  go_wp2_with (first | (refine wp_scope_lab 8 ?_; intro K hK) | (refine Lab.step _ rfl ?_; intro K hK) | (refine hK _ _ _ ?_; refine Lab.step _ rfl ?_; intro K hK) | simp only [jumps_goto, jumps_ret, jumps_normal] | simp only [Exit.then, Exit.inBlock, jumps_goto, jumps_ret, jumps_normal] | go_step3)
  refine (pop_1 T L (.slice (some ⟨g, 0, none⟩) 1 cc) 1 x hs kL _ S11).mono ?_; rintro e w12 ⟨rfl, S12, P12⟩
  have O12 : Oth w w12 x x := Oth.trans O11 P12
  have S20 : Sc T n (.slice (some ⟨g, 0, none⟩) 1 cc) 0 1 x w12 := by rw [← HL.out]; exact S12
  go_wp2_with (first | (refine wp_scope_lab 8 ?_; intro K hK) | (refine Lab.step _ rfl ?_; intro K hK) | (refine hK _ _ _ ?_; refine Lab.step _ rfl ?_; intro K hK) | simp only [jumps_goto, jumps_ret, jumps_normal] | simp only [Exit.then, Exit.inBlock, jumps_goto, jumps_ret, jumps_normal] | go_step3)
  refine (blanks_e T n (.slice (some ⟨g, 0, none⟩) 1 cc) 0 1 x hs HN.out.symm _ S20).mono ?_; rintro e w13 ⟨rfl, m13, hw⟩
  have S13 : Sc T (n) (.slice (some ⟨g, 0, none⟩) 1 cc) 0 1 x w13 := by rw [hw]; exact Sc.drewN S20 _
  have O13 : Oth w w13 x x := by rw [hw]; exact Oth.trans O12 (Oth.drewN _ _ _ _)
  clear hw
  have xlt := S13.lt
  have xlt1 : x < w13.heap.size + 1 := by omega
  have xlt2 : x < w13.heap.size + 1 + 1 := by omega
  have xlt3 : x < w13.heap.size + 1 + 1 + 1 := by omega
  have x0 := S13.c0
  have x1 := S13.c1
  have x2 := S13.c2
  have x3 := S13.c3
  have x4 := S13.c4
  have xz1 := S13.z1
  have xz2 := S13.z2
  have xz3 := S13.z3
  have xz4 := S13.z4
  have hb : ((n : Int) == (T.size : Int)) = true := by rw [HN.out]; simp
  go_wp2_with (first | (refine wp_scope_lab 8 ?_; intro K hK) | (refine Lab.step _ rfl ?_; intro K hK) | (refine hK _ _ _ ?_; refine Lab.step _ rfl ?_; intro K hK) | simp only [jumps_goto, jumps_ret, jumps_normal] | simp only [Exit.then, Exit.inBlock, jumps_goto, jumps_ret, jumps_normal] | go_step3)
  go_quiet (fail)
  go_wp2_with (first | (refine wp_scope_lab 8 ?_; intro K hK) | (refine Lab.step _ rfl ?_; intro K hK) | (refine hK _ _ _ ?_; refine Lab.step _ rfl ?_; intro K hK) | simp only [jumps_goto, jumps_ret, jumps_normal] | simp only [Exit.then, Exit.inBlock, jumps_goto, jumps_ret, jumps_normal] | go_step3)
  go_ret
  exact ⟨g, cc, rfl, Sc.drewN S13 _, Oth.trans O13 (Oth.drewN _ _ _ _)⟩
structure ScT (T : ByteArray) (n L : Nat) (c : Int) : Prop where
  hn : T.size = n
  hL : L + 1 = n
  h3 : 3 ≤ n
  h1 : n < 1024
  k0 : 0 < T.size
  k1 : 1 < T.size
  kL : L < T.size
  c0 : ((T[0]'k0).toNat : Int) = 91
  c1 : ((T[1]'k1).toNat : Int) = c
  cL : ((T[L]'kL).toNat : Int) = 93
  hc : c ≠ 32 ∧ c ≠ 9 ∧ c ≠ 10 ∧ c ≠ 13
  hc2 : c ≠ 91 ∧ c ≠ 93 ∧ c ≠ 123
  lf : LfS T L
set_option maxRecDepth 100000 in
set_option maxHeartbeats 2000000 in
theorem validate_1 (T : ByteArray) (n L : Nat) (c : Int) (hT : ScT T n L c) (dp : Nat) (hd : 1 ≤ dp) (hd2 : dp ≤ 4096) (w : World) : Calls Tryz.prog 35 #[.string T, .int .i64 (dp : Nat)] w fun e w' => e = .returned (.tuple #[.int .i64 1, .int .i64 1, .int .i64 0]) ∧ Below w.heap.size w w' := by
  have hsz : ¬ (65536 : Int) < (T.size : Int) := by have := hT.hn; have := hT.h1; omega
  have e1 : ¬ (dp : Int) < 1 := by omega
  have e2 : ¬ (4096 : Int) < (dp : Int) := by omega
  go_enter Tryz.func35, Tryz.ntmps35
  go_wp2_with fail
  refine (text_1 T n L hT.hn hT.hL hT.h3 hT.h1 hT.k0 hT.k1 hT.kL c hT.c0 hT.c1 hT.cL hT.hc hT.hc2 hT.lf w.heap.size _ ⟨by simp, by simp [go_sem], by simp [go_sem], by simp [go_sem], by simp [go_sem], by simp [go_sem], by simp [go_sem], by simp [go_sem], by simp [go_sem], by simp [go_sem]⟩).mono ?_; rintro e w1 ⟨g, cc, rfl, S1, O1⟩
  have HB := O1.bel w.heap.size (Nat.le_refl _) (Nat.le_refl _) (by simp)
  have xlt := S1.lt
  have xlt1 : w.heap.size < w1.heap.size + 1 := by omega
  have xlt2 : w.heap.size < w1.heap.size + 1 + 1 := by omega
  have xlt3 : w.heap.size < w1.heap.size + 1 + 1 + 1 := by omega
  have x0 := S1.c0
  have x1 := S1.c1
  have x2 := S1.c2
  have x3 := S1.c3
  have x4 := S1.c4
  have xz1 := S1.z1
  have xz2 := S1.z2
  have xz3 := S1.z3
  have xz4 := S1.z4
  have e3 : ¬ (dp : Int) < 1 := by omega
  go_wp2_with fail
  go_quiet (fail)
  go_wp2_with fail
  go_ret3
  exact ⟨rfl, below_drewN' (((Below.refl _ _).alloc (Nat.le_refl _) _).trans HB) _⟩
set_option maxRecDepth 100000 in
set_option maxHeartbeats 2000000 in
theorem look_1 (T : ByteArray) (n L : Nat) (c : Int) (hT : ScT T n L c) (w : World) : Calls Tryz.prog 36 #[.string T] w fun e w' => e = .returned (.int .i64 0) ∧ Below w.heap.size w w' := by
  go_enter Tryz.func36, Tryz.ntmps36
  have hV := fun w => validate_1 T n L c hT 4096 (by decide) (by decide) w
  simp only [show ((4096 : Nat) : Int) = 4096 from rfl] at hV
  go_wp2_with fail
  refine (hV _).mono ?_; rintro e w1 ⟨rfl, hb⟩
  go_wp2_with fail
  go_ret
  exact ⟨rfl, hb⟩
end Go.Proofs.YtjelneeeijjpiaaGreatDoor
end
section
namespace Go.Proofs.YtjelneeeijjpiaaGreatDoor
open Go.RowKit
theorem Four.oth {w w' : World} {g p q : Nat} (h : Four w g) (o : Oth w w' p q) (h1 : g ≠ p) (h2 : g ≠ q) : Four w' g :=
  ⟨Nat.lt_of_lt_of_le h.1 o.size, (o.cell ⟨g, 0, none⟩ h.1 h1 h2).trans h.2.1, (o.cell ⟨g, 1, none⟩ h.1 h1 h2).trans h.2.2.1, (o.cell ⟨g, 2, none⟩ h.1 h1 h2).trans h.2.2.2.1, (o.cell ⟨g, 3, none⟩ h.1 h1 h2).trans h.2.2.2.2⟩
set_option maxRecDepth 100000 in
set_option maxHeartbeats 2000000 in
theorem bound_2 (g cc : Nat) (s : ByteArray) (w : World) : Calls Tryz.prog 39 #[.slice (some ⟨g, 0, none⟩) 2 cc, .string s] w fun e w' => e = .returned (.int .i64 (s.size : Nat)) ∧ w = w' := by
  go_enter Tryz.func39, Tryz.ntmps39
  go_wp2_with fail
  go_ret
  exact ⟨rfl, rfl⟩
set_option maxRecDepth 100000 in
set_option maxHeartbeats 2000000 in
theorem row_4 (g cc : Nat) (w : World) (hF : Four w g) : Calls Tryz.prog 40 #[.slice (some ⟨g, 0, none⟩) 4 cc] w fun e w' => ∃ b, e = .returned (.pointer (some ⟨b, 0, none⟩)) ∧ Below w.heap.size w w' ∧ Rw w' b 3 4 := by
  go_enter Tryz.func40, Tryz.ntmps40
  have F0 := hF.below ((Below.refl _ _).alloc (Nat.le_refl _) (.cells #[.slice none 0 0, .int .i64 0] 161))
  have B0 := Bd.new w 0
  have hgp : g ≠ w.heap.size := by have := hF.1; omega
  have Z0 : Below w.heap.size w (w.alloc (.cells #[.slice none 0 0, .int .i64 0] 161)) := (Below.refl _ _).alloc (Nat.le_refl _) _
  obtain ⟨fl, f0, f1, f2, f3⟩ := id F0
  go_wp2_with (first | (refine wp_loop_unr 6 ?_; refine Unr.step ?_; intro U hU) | (refine Unr.step ?_; intro U hU))
  refine (bit_1 w.heap.size 0 0 0 _ B0 (by decide) (by decide)).mono ?_; rintro e w1 ⟨rfl, g1, hB, hz, hn, hO⟩
  have hg1 := hz rfl
  simp at hg1
  have ga0 : w.heap.size ≤ g1 := by omega
  have hga : g ≠ g1 := by have := hF.1; omega
  have B1 : Bd w1 w.heap.size g1 1 1 := hB
  have F1 := F0.oth hO hgp hga
  have Z1 := Z0.trans (hO.bel w.heap.size (Nat.le_refl _) ga0 Z0.size)
  clear hB hz hn hO
  clear fl f0 f1 f2 f3
  obtain ⟨fl, f0, f1, f2, f3⟩ := id F1
  go_wp2_with (first | (refine wp_loop_unr 6 ?_; refine Unr.step ?_; intro U hU) | (refine Unr.step ?_; intro U hU))
  refine (bit_1 w.heap.size _ 1 1 _ B1 (by decide) (by decide)).mono ?_; rintro e w2 ⟨rfl, g2, hB, hz, hn, hO⟩
  obtain rfl := hn (by decide)
  have B2 : Bd w2 w.heap.size g2 3 2 := hB
  have F2 := F1.oth hO hgp hga
  have Z2 := Z1.trans (hO.bel w.heap.size (Nat.le_refl _) ga0 Z1.size)
  clear hB hz hn hO
  clear fl f0 f1 f2 f3
  obtain ⟨fl, f0, f1, f2, f3⟩ := id F2
  go_wp2_with (first | (refine wp_loop_unr 6 ?_; refine Unr.step ?_; intro U hU) | (refine Unr.step ?_; intro U hU))
  refine (bit_0 w.heap.size _ 3 2 _ B2 (by decide) (by decide)).mono ?_; rintro e w3 ⟨rfl, g3, hB, hz, hn, hO⟩
  obtain rfl := hn (by decide)
  have B3 : Bd w3 w.heap.size g3 3 3 := hB
  have F3 := F2.oth hO hgp hga
  have Z3 := Z2.trans (hO.bel w.heap.size (Nat.le_refl _) ga0 Z2.size)
  clear hB hz hn hO
  clear fl f0 f1 f2 f3
  obtain ⟨fl, f0, f1, f2, f3⟩ := id F3
  go_wp2_with (first | (refine wp_loop_unr 6 ?_; refine Unr.step ?_; intro U hU) | (refine Unr.step ?_; intro U hU))
  refine (bit_0 w.heap.size _ 3 3 _ B3 (by decide) (by decide)).mono ?_; rintro e w4 ⟨rfl, g4, hB, hz, hn, hO⟩
  obtain rfl := hn (by decide)
  have B4 : Bd w4 w.heap.size g4 3 4 := hB
  have F4 := F3.oth hO hgp hga
  have Z4 := Z3.trans (hO.bel w.heap.size (Nat.le_refl _) ga0 Z3.size)
  clear hB hz hn hO
  clear fl f0 f1 f2 f3
  obtain ⟨fl, f0, f1, f2, f3⟩ := id F4
  go_wp2_with (first | (refine wp_loop_unr 6 ?_; refine Unr.step ?_; intro U hU) | (refine Unr.step ?_; intro U hU))
  refine (brow_any w.heap.size _ 3 4 _ B4 (by decide)).mono ?_; rintro e w5 ⟨b, rfl, hb, hb5, hR⟩
  clear fl f0 f1 f2 f3
  go_wp2_with (first | (refine wp_loop_unr 6 ?_; refine Unr.step ?_; intro U hU) | (refine Unr.step ?_; intro U hU))
  go_ret
  exact ⟨b, rfl, Z4.trans (hb5.mono Z4.size), hR⟩
set_option maxRecDepth 100000 in
set_option maxHeartbeats 2000000 in
theorem make_1 (T : ByteArray) (n L : Nat) (c : Int) (hT : ScT T n L c) (hZ : Ms T 0 false [((0 : Int), (91 : Int)), ((L : Int), (93 : Int))]) (w : World) (hTb : Tab w) : Calls Tryz.prog 20 #[.string T] w fun e w' => ∃ p, e = .returned (.tuple #[.pointer (some ⟨p, 0, none⟩), .int .i64 0]) ∧ Below w.heap.size w w' ∧ Ix w' p T n := by
  obtain ⟨hn, hL, h3, h1, -, -, -, -, -, -, -, -, -⟩ := id hT
  have hs : T.size ≤ 100000 := by omega
  have HN := Lib.hid hn
  have HL := Lib.hid hL
  clear hn hL
  go_enter Tryz.func20, Tryz.ntmps20
  go_wp2_with fail
  refine (look_1 T n L c hT _).mono ?_; rintro e w1 ⟨rfl, Z1⟩
  go_wp2_with fail
  refine (places_any T hs L hZ _).mono ?_; rintro e w2 ⟨g, cc, rfl, hG, hb⟩
  have Z2 := Z1.trans (hb.mono Z1.size)
  clear hb
  go_wp2_with fail
  refine (bound_2 g cc T _).mono ?_; rintro e w3 ⟨rfl, rfl⟩
  have hM := make_any g cc T.size (by rw [HN.out]; exact h3) (by rw [HN.out]; exact h1) w2 (by rw [show T.size - 1 = L by have := HN.out; have := HL.out; omega]; exact hG)
  go_wp2_with fail
  refine hM.mono ?_; rintro e w3 ⟨sq, rfl, hb, hS⟩
  have Z3 := Z2.trans (hb.mono Z2.size)
  clear hb hM
  go_wp2_with fail
  refine (parens_any T hs L hZ _).mono ?_; rintro e w4 ⟨g2, c2, rfl, hF, hb⟩
  have S4 := hS.below hb
  have Z4 := Z3.trans (hb.mono Z3.size)
  clear hb
  go_wp2_with fail
  refine (row_4 g2 c2 _ hF).mono ?_; rintro e w5 ⟨b, rfl, hb, hR⟩
  have S5 := S4.below hb
  have Z5 := Z4.trans (hb.mono Z4.size)
  clear hb
  go_wp2_with fail
  refine (nnew_any b _ hR).mono ?_; rintro e w6 ⟨ns, rfl, hb, hNs⟩
  have S6 := S5.below hb
  have Z6 := Z5.trans (hb.mono Z5.size)
  clear hb
  go_wp2_with fail
  go_ret2
  have hA := (Below.refl w6.heap.size w6).alloc (Nat.le_refl _) (.cells #[.pointer (some ⟨sq, 0, none⟩), .pointer (some ⟨b, 0, none⟩), .pointer (some ⟨ns, 0, none⟩), .string T] 102)
  refine ⟨_, rfl, Z6.trans (hA.mono Z6.size), sq, b, ns, by simp, by simp [go_sem], by simp [go_sem], by simp [go_sem], by simp [go_sem], ?_, hNs.below hA, (hTb.below Z6).below hA⟩
  rw [← HN.out]; exact S6.below hA
end Go.Proofs.YtjelneeeijjpiaaGreatDoor
end
