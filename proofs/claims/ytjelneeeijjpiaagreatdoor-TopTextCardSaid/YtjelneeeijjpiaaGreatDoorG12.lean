/- TopText: walks and plain laws, part 12: lemmas on what the functions that the law comes to compute. -/
import Derived.Test.YtjelneeeijjpiaaGreatDoorG11
set_option linter.unusedVariables false
set_option linter.unusedSimpArgs false
section
namespace Go.Proofs.YtjelneeeijjpiaaGreatDoor
open Go.RowKit
def Ix (w : World) (p : Nat) (T : ByteArray) (n : Nat) : Prop := ∃ sq b ns, p < w.heap.size ∧ w.cell? ⟨p, 0, none⟩ = some (.pointer (some ⟨sq, 0, none⟩)) ∧ w.cell? ⟨p, 1, none⟩ = some (.pointer (some ⟨b, 0, none⟩)) ∧ w.cell? ⟨p, 2, none⟩ = some (.pointer (some ⟨ns, 0, none⟩)) ∧ w.cell? ⟨p, 3, none⟩ = some (.string T) ∧ Sq w sq n ∧ Ns w ns b ∧ Tab w
theorem Ix.below {w w' : World} {p n : Nat} {T : ByteArray} (h : Ix w p T n) (hb : Below w.heap.size w w') : Ix w' p T n := by
  obtain ⟨sq, b, ns, a1, c0, c1, c2, c3, h1, h2, h3⟩ := h
  exact ⟨sq, b, ns, Nat.lt_of_lt_of_le a1 hb.size, (hb.cell (p := ⟨p, 0, none⟩) a1).trans c0, (hb.cell (p := ⟨p, 1, none⟩) a1).trans c1, (hb.cell (p := ⟨p, 2, none⟩) a1).trans c2, (hb.cell (p := ⟨p, 3, none⟩) a1).trans c3, h1.below hb, h2.below hb, h3.below hb⟩
theorem Ix.drewN {w : World} {p n : Nat} {T : ByteArray} (h : Ix w p T n) (m : Nat) : Ix (w.drewN m) p T n := h.below (below_drewN (Below.refl _ _) m)
structure Doc (T V : ByteArray) (n L : Nat) : Prop where
  hn : T.size = n
  hL : L + 1 = n
  n3 : 3 ≤ n
  n1 : n < 1024
  bT : Bare T
  bV : Bare V
  mid : T.extract 1 L = V
  vs : V.size + 1 = L
  h0 : ∀ h : 0 < T.size, ((T[0]'h).toNat : Int) = 91
theorem slice_eq (s t : ByteArray) (k e : Nat) (h : k ≤ e) (he : e ≤ s.size) (ht : s.extract k e = t) (w : World) : (Instr.slice 9 (.string s) (some (.int .i64 (k : Int))) (some (.int .i64 (e : Int))) none).run Tryz.prog w = .ok (.string t) w := by
  rw [run_slice_string w 9 s .i64 .i64 (k : Int) (e : Int) Tryz.underlying9 (by omega) (by omega) (by omega)]
  rw [show ((k : Int)).toNat = k from rfl, show ((e : Int)).toNat = e from rfl, ht]
theorem ext_all (s : ByteArray) : s.extract 0 s.size = s := by
  first | exact ByteArray.extract_zero_size | exact s.extract_zero_size | simp
theorem Doc.all {T V : ByteArray} {n L : Nat} (h : Doc T V n L) (w : World) : (Instr.slice 9 (.string T) (some (.int .i64 0)) (some (.int .i64 (n : Nat))) none).run Tryz.prog w = .ok (.string T) w :=
  slice_eq T T 0 n (by omega) (by rw [h.hn]; omega) (by rw [← h.hn]; exact ext_all T) w
theorem Doc.cut {T V : ByteArray} {n L : Nat} (h : Doc T V n L) (w : World) : (Instr.slice 9 (.string T) (some (.int .i64 1)) (some (.int .i64 (L : Nat))) none).run Tryz.prog w = .ok (.string V) w :=
  slice_eq T V 1 L (by have := h.hL; have := h.n3; omega) (by have := h.hL; rw [h.hn]; omega) h.mid w
set_option maxRecDepth 100000 in
theorem xtext_any (p n : Nat) (T : ByteArray) (w : World) (h : Ix w p T n) : Calls Tryz.prog 156 #[.pointer (some ⟨p, 0, none⟩)] w fun e w' => e = .returned (.string T) ∧ w = w' := by
  obtain ⟨sq, b, ns, a1, c0, c1, c2, c3, h1, h2, h3⟩ := h
  go_enter Tryz.func156, Tryz.ntmps156
  go_wp2
  go_ret
  exact ⟨rfl, rfl⟩
set_option maxRecDepth 100000 in
theorem xmark_0 (p n : Nat) (T : ByteArray) (hn : 3 ≤ n) (hn2 : n < 1024) (w : World) (h : Ix w p T n) : Calls Tryz.prog 238 #[.pointer (some ⟨p, 0, none⟩), .int .i64 0] w fun e w' => e = .returned (.tuple #[.int .i64 0, .int .i64 0]) ∧ Below w.heap.size w w' := by
  obtain ⟨sq, b, ns, a1, c0, c1, c2, c3, h1, h2, h3⟩ := h
  go_enter Tryz.func238, Tryz.ntmps238
  go_wp2_with (first | (go_at_call 134; refine (sGet_0 sq n hn hn2 _ h1 h3).mono ?_; rintro e w1 ⟨rfl, hb1⟩))
  go_ret2
  exact ⟨rfl, hb1⟩
set_option maxRecDepth 100000 in
theorem xmark_1 (p n L : Nat) (T : ByteArray) (hn : 3 ≤ n) (hn2 : n < 1024) (hL : L + 1 = n) (w : World) (h : Ix w p T n) : Calls Tryz.prog 238 #[.pointer (some ⟨p, 0, none⟩), .int .i64 1] w fun e w' => e = .returned (.tuple #[.int .i64 (L : Nat), .int .i64 0]) ∧ Below w.heap.size w w' := by
  obtain ⟨sq, b, ns, a1, c0, c1, c2, c3, h1, h2, h3⟩ := h
  have hg := sGet_1 sq n hn hn2 w h1 h3
  rw [show n - 1 = L by omega] at hg
  go_enter Tryz.func238, Tryz.ntmps238
  go_wp2_with (first | (go_at_call 134; refine hg.mono ?_; rintro e w1 ⟨rfl, hb1⟩))
  go_ret2
  exact ⟨rfl, hb1⟩
theorem xtext_q (p n L : Nat) (T V : ByteArray) (hD : Doc T V n L) (w : World) (h : Ix w p T n) (W : World) (hW : Below w.heap.size w W) : Calls Tryz.prog 156 #[.pointer (some ⟨p, 0, none⟩)] W fun e w' => e = .returned (.string T) ∧ ∃ m, w' = W.drewN m := (xtext_any p n T W (h.below hW)).mono fun e w' ⟨h1, h2⟩ => ⟨h1, 0, by rw [← h2]; rfl⟩
set_option maxRecDepth 100000 in
theorem xnest_q (p ns : Nat) (w : World) (hp : p < w.heap.size) (c : w.cell? ⟨p, 2, none⟩ = some (.pointer (some ⟨ns, 0, none⟩))) (W : World) (hW : Below w.heap.size w W) : Calls Tryz.prog 239 #[.pointer (some ⟨p, 0, none⟩)] W fun e w' => e = .returned (.pointer (some ⟨ns, 0, none⟩)) ∧ ∃ m, w' = W.drewN m := by
  have c2 := (hW.cell (p := ⟨p, 2, none⟩) hp).trans c
  go_enter Tryz.func239, Tryz.ntmps239
  go_wp2
  go_ret
  exact ⟨rfl, 0, rfl⟩
set_option maxRecDepth 100000 in
set_option maxHeartbeats 2000000 in
theorem zone_r (p n L : Nat) (T V : ByteArray) (hD : Doc T V n L) (w : World) (h : Ix w p T n) : Calls Tryz.prog 184 #[.agg #[.pointer (some ⟨p, 0, none⟩), .int .i64 (-1)]] w fun e w' => e = .returned (.agg #[.int .i64 0, .int .i64 (n : Nat)]) ∧ Below w.heap.size w w' := by
  have hn := hD.n3
  have hn1 := hD.n1
  have hL := hD.hL
  have hs := hD.hn
  have hv := hD.vs
  have hTx := xtext_q p n L T V hD w h
  go_enter Tryz.func184, Tryz.ntmps184
  go_wp2_with (first | (go_at_call 156; refine (xtext_any p n T _ (h.below (by (repeat' (first | exact Below.refl _ _ | exact Hid.out (by assumption) | refine Below.alloc ?_ (by first | (simp; done) | (simp; omega) | omega) _ | refine Below.setCell ?_ (by first | (simp; done) | (simp; omega) | omega) _ | refine below_drewN' ?_ _ | refine Below.drew ?_))))).mono ?_; rintro e w9 ⟨rfl, rfl⟩))
  go_wp2_with fail
  try simp only [Exit.inBlock, Exit.then]
  refine bodyPost_ret (v := .agg #[.int .i64 0, .int .i64 (n : Nat)]) (by simp [results, Tryz.results184, go_sem, *, hs]) rfl ⟨rfl, by (repeat' (first | exact Below.refl _ _ | exact Hid.out (by assumption) | refine Below.alloc ?_ (by first | (simp; done) | (simp; omega) | omega) _ | refine Below.setCell ?_ (by first | (simp; done) | (simp; omega) | omega) _ | refine below_drewN' ?_ _ | refine Below.drew ?_))⟩
set_option maxRecDepth 100000 in
set_option maxHeartbeats 2000000 in
theorem zone_1 (p n L : Nat) (T V : ByteArray) (hD : Doc T V n L) (w : World) (h : Ix w p T n) : Calls Tryz.prog 184 #[.agg #[.pointer (some ⟨p, 0, none⟩), .int .i64 1]] w fun e w' => e = .returned (.agg #[.int .i64 1, .int .i64 (L : Nat)]) ∧ Below w.heap.size w w' := by
  have hn := hD.n3
  have hn1 := hD.n1
  have hL := hD.hL
  have hs := hD.hn
  have hv := hD.vs
  obtain ⟨sq, b, ns, a1, x0, x1, x2, x3, g1, g2, g3⟩ := id h
  have hNe := xnest_q p ns w a1 x2
  have hCl : ∀ (W : World) (hW : Below w.heap.size w W), _ := fun W hW => nClose_any ns b W (g2.below hW)
  go_enter Tryz.func184, Tryz.ntmps184
  go_wp2_with fail
  refine (xmark_0 p n T hn hn1 _ (h.below (by (repeat' (first | exact Below.refl _ _ | exact Hid.out (by assumption) | refine Below.alloc ?_ (by first | (simp; done) | (simp; omega) | omega) _ | refine Below.setCell ?_ (by first | (simp; done) | (simp; omega) | omega) _ | refine below_drewN' ?_ _ | refine Below.drew ?_))))).mono ?_; rintro e w1 ⟨rfl, hb1⟩
  have s1 := hb1.size; try simp at s1
  try (have l1_0_0_0 : w.heap.size < w1.heap.size := by omega)
  try (have l1_0_0_1 : w.heap.size < w1.heap.size + 1 := by omega)
  try (have l1_0_0_2 : w.heap.size < w1.heap.size + 1 + 1 := by omega)
  try (have l1_0_1_0 : w.heap.size + 1 < w1.heap.size := by omega)
  try (have l1_0_1_1 : w.heap.size + 1 < w1.heap.size + 1 := by omega)
  try (have l1_0_1_2 : w.heap.size + 1 < w1.heap.size + 1 + 1 := by omega)
  try (have e1_0_0_0 := hb1.cell (p := ⟨w.heap.size, 0, none⟩) (by first | (simp; done) | (simp; omega) | omega); simp [go_sem, *] at e1_0_0_0)
  try (have f1_0_0_0 := hb1.frozen (p := ⟨w.heap.size, 0, none⟩) (by first | (simp; done) | (simp; omega) | omega); simp [go_sem, *] at f1_0_0_0)
  try (have e1_0_0_1 := hb1.cell (p := ⟨w.heap.size, 1, none⟩) (by first | (simp; done) | (simp; omega) | omega); simp [go_sem, *] at e1_0_0_1)
  try (have f1_0_0_1 := hb1.frozen (p := ⟨w.heap.size, 1, none⟩) (by first | (simp; done) | (simp; omega) | omega); simp [go_sem, *] at f1_0_0_1)
  try (have e1_0_1_0 := hb1.cell (p := ⟨w.heap.size + 1, 0, none⟩) (by first | (simp; done) | (simp; omega) | omega); simp [go_sem, *] at e1_0_1_0)
  try (have f1_0_1_0 := hb1.frozen (p := ⟨w.heap.size + 1, 0, none⟩) (by first | (simp; done) | (simp; omega) | omega); simp [go_sem, *] at f1_0_1_0)
  try (have e1_0_1_1 := hb1.cell (p := ⟨w.heap.size + 1, 1, none⟩) (by first | (simp; done) | (simp; omega) | omega); simp [go_sem, *] at e1_0_1_1)
  try (have f1_0_1_1 := hb1.frozen (p := ⟨w.heap.size + 1, 1, none⟩) (by first | (simp; done) | (simp; omega) | omega); simp [go_sem, *] at f1_0_1_1)
  have HB1 := bel_step (w := w) (by (repeat' (first | exact Below.refl _ _ | exact Hid.out (by assumption) | refine Below.alloc ?_ (by first | (simp; done) | (simp; omega) | omega) _ | refine Below.setCell ?_ (by first | (simp; done) | (simp; omega) | omega) _ | refine below_drewN' ?_ _ | refine Below.drew ?_))) hb1
  clear hb1
  go_wp2_with fail
  go_quiet ((first | (go_at_call 239; exact quiet_ex (hNe _ (by (repeat' (first | exact Below.refl _ _ | exact Hid.out (by assumption) | refine Below.alloc ?_ (by first | (simp; done) | (simp; omega) | omega) _ | refine Below.setCell ?_ (by first | (simp; done) | (simp; omega) | omega) _ | refine below_drewN' ?_ _ | refine Below.drew ?_))))) | (go_at_call 240; exact quiet_ex (hCl _ (by (repeat' (first | exact Below.refl _ _ | exact Hid.out (by assumption) | refine Below.alloc ?_ (by first | (simp; done) | (simp; omega) | omega) _ | refine Below.setCell ?_ (by first | (simp; done) | (simp; omega) | omega) _ | refine below_drewN' ?_ _ | refine Below.drew ?_)))))))
  go_wp2_with fail
  refine (xmark_1 p n L T hn hn1 hL _ (h.below (by (repeat' (first | exact Below.refl _ _ | exact Hid.out (by assumption) | refine Below.alloc ?_ (by first | (simp; done) | (simp; omega) | omega) _ | refine Below.setCell ?_ (by first | (simp; done) | (simp; omega) | omega) _ | refine below_drewN' ?_ _ | refine Below.drew ?_))))).mono ?_; rintro e w2 ⟨rfl, hb2⟩
  have s2 := hb2.size; try simp at s2
  try (have l2_0_0_0 : w.heap.size < w2.heap.size := by omega)
  try (have l2_0_0_1 : w.heap.size < w2.heap.size + 1 := by omega)
  try (have l2_0_0_2 : w.heap.size < w2.heap.size + 1 + 1 := by omega)
  try (have l2_0_1_0 : w.heap.size + 1 < w2.heap.size := by omega)
  try (have l2_0_1_1 : w.heap.size + 1 < w2.heap.size + 1 := by omega)
  try (have l2_0_1_2 : w.heap.size + 1 < w2.heap.size + 1 + 1 := by omega)
  try (have e2_0_0_0 := hb2.cell (p := ⟨w.heap.size, 0, none⟩) (by first | (simp; done) | (simp; omega) | omega); simp [go_sem, *] at e2_0_0_0)
  try (have f2_0_0_0 := hb2.frozen (p := ⟨w.heap.size, 0, none⟩) (by first | (simp; done) | (simp; omega) | omega); simp [go_sem, *] at f2_0_0_0)
  try (have e2_0_0_1 := hb2.cell (p := ⟨w.heap.size, 1, none⟩) (by first | (simp; done) | (simp; omega) | omega); simp [go_sem, *] at e2_0_0_1)
  try (have f2_0_0_1 := hb2.frozen (p := ⟨w.heap.size, 1, none⟩) (by first | (simp; done) | (simp; omega) | omega); simp [go_sem, *] at f2_0_0_1)
  try (have e2_0_1_0 := hb2.cell (p := ⟨w.heap.size + 1, 0, none⟩) (by first | (simp; done) | (simp; omega) | omega); simp [go_sem, *] at e2_0_1_0)
  try (have f2_0_1_0 := hb2.frozen (p := ⟨w.heap.size + 1, 0, none⟩) (by first | (simp; done) | (simp; omega) | omega); simp [go_sem, *] at f2_0_1_0)
  try (have e2_0_1_1 := hb2.cell (p := ⟨w.heap.size + 1, 1, none⟩) (by first | (simp; done) | (simp; omega) | omega); simp [go_sem, *] at e2_0_1_1)
  try (have f2_0_1_1 := hb2.frozen (p := ⟨w.heap.size + 1, 1, none⟩) (by first | (simp; done) | (simp; omega) | omega); simp [go_sem, *] at f2_0_1_1)
  have HB2 := bel_step (w := w) (by (repeat' (first | exact Below.refl _ _ | exact Hid.out (by assumption) | refine Below.alloc ?_ (by first | (simp; done) | (simp; omega) | omega) _ | refine Below.setCell ?_ (by first | (simp; done) | (simp; omega) | omega) _ | refine below_drewN' ?_ _ | refine Below.drew ?_))) hb2
  clear hb2
  go_wp2_with fail
  try simp only [Exit.inBlock, Exit.then]
  refine bodyPost_ret (v := .agg #[.int .i64 1, .int .i64 (L : Nat)]) (by simp [results, Tryz.results184, go_sem, *]) rfl ⟨rfl, by (repeat' (first | exact Below.refl _ _ | exact Hid.out (by assumption) | refine Below.alloc ?_ (by first | (simp; done) | (simp; omega) | omega) _ | refine Below.setCell ?_ (by first | (simp; done) | (simp; omega) | omega) _ | refine below_drewN' ?_ _ | refine Below.drew ?_))⟩
set_option maxRecDepth 100000 in
set_option maxHeartbeats 2000000 in
theorem span_r (p n L : Nat) (T V : ByteArray) (hD : Doc T V n L) (w : World) (h : Ix w p T n) : Calls Tryz.prog 141 #[.agg #[.pointer (some ⟨p, 0, none⟩), .int .i64 (-1)]] w fun e w' => e = .returned (.agg #[.int .i64 0, .int .i64 (n : Nat)]) ∧ Below w.heap.size w w' := by
  have hn := hD.n3
  have hn1 := hD.n1
  have hL := hD.hL
  have hs := hD.hn
  have hv := hD.vs
  have hTx := xtext_q p n L T V hD w h
  have hsl := hD.all
  go_enter Tryz.func141, Tryz.ntmps141
  go_wp2_with fail
  refine (zone_r p n L T V hD _ (h.below (by (repeat' (first | exact Below.refl _ _ | exact Hid.out (by assumption) | refine Below.alloc ?_ (by first | (simp; done) | (simp; omega) | omega) _ | refine Below.setCell ?_ (by first | (simp; done) | (simp; omega) | omega) _ | refine below_drewN' ?_ _ | refine Below.drew ?_))))).mono ?_; rintro e w1 ⟨rfl, hb1⟩
  have s1 := hb1.size; try simp at s1
  try (have l1_0_0_0 : w.heap.size < w1.heap.size := by omega)
  try (have l1_0_0_1 : w.heap.size < w1.heap.size + 1 := by omega)
  try (have l1_0_0_2 : w.heap.size < w1.heap.size + 1 + 1 := by omega)
  try (have l1_0_1_0 : w.heap.size + 1 < w1.heap.size := by omega)
  try (have l1_0_1_1 : w.heap.size + 1 < w1.heap.size + 1 := by omega)
  try (have l1_0_1_2 : w.heap.size + 1 < w1.heap.size + 1 + 1 := by omega)
  try (have l1_0_2_0 : w.heap.size + 2 < w1.heap.size := by omega)
  try (have l1_0_2_1 : w.heap.size + 2 < w1.heap.size + 1 := by omega)
  try (have l1_0_2_2 : w.heap.size + 2 < w1.heap.size + 1 + 1 := by omega)
  try (have l1_0_3_0 : w.heap.size + 3 < w1.heap.size := by omega)
  try (have l1_0_3_1 : w.heap.size + 3 < w1.heap.size + 1 := by omega)
  try (have l1_0_3_2 : w.heap.size + 3 < w1.heap.size + 1 + 1 := by omega)
  try (have e1_0_0_0 := hb1.cell (p := ⟨w.heap.size, 0, none⟩) (by first | (simp; done) | (simp; omega) | omega); simp [go_sem, *] at e1_0_0_0)
  try (have f1_0_0_0 := hb1.frozen (p := ⟨w.heap.size, 0, none⟩) (by first | (simp; done) | (simp; omega) | omega); simp [go_sem, *] at f1_0_0_0)
  try (have e1_0_0_1 := hb1.cell (p := ⟨w.heap.size, 1, none⟩) (by first | (simp; done) | (simp; omega) | omega); simp [go_sem, *] at e1_0_0_1)
  try (have f1_0_0_1 := hb1.frozen (p := ⟨w.heap.size, 1, none⟩) (by first | (simp; done) | (simp; omega) | omega); simp [go_sem, *] at f1_0_0_1)
  try (have e1_0_1_0 := hb1.cell (p := ⟨w.heap.size + 1, 0, none⟩) (by first | (simp; done) | (simp; omega) | omega); simp [go_sem, *] at e1_0_1_0)
  try (have f1_0_1_0 := hb1.frozen (p := ⟨w.heap.size + 1, 0, none⟩) (by first | (simp; done) | (simp; omega) | omega); simp [go_sem, *] at f1_0_1_0)
  try (have e1_0_1_1 := hb1.cell (p := ⟨w.heap.size + 1, 1, none⟩) (by first | (simp; done) | (simp; omega) | omega); simp [go_sem, *] at e1_0_1_1)
  try (have f1_0_1_1 := hb1.frozen (p := ⟨w.heap.size + 1, 1, none⟩) (by first | (simp; done) | (simp; omega) | omega); simp [go_sem, *] at f1_0_1_1)
  try (have e1_0_2_0 := hb1.cell (p := ⟨w.heap.size + 2, 0, none⟩) (by first | (simp; done) | (simp; omega) | omega); simp [go_sem, *] at e1_0_2_0)
  try (have f1_0_2_0 := hb1.frozen (p := ⟨w.heap.size + 2, 0, none⟩) (by first | (simp; done) | (simp; omega) | omega); simp [go_sem, *] at f1_0_2_0)
  try (have e1_0_2_1 := hb1.cell (p := ⟨w.heap.size + 2, 1, none⟩) (by first | (simp; done) | (simp; omega) | omega); simp [go_sem, *] at e1_0_2_1)
  try (have f1_0_2_1 := hb1.frozen (p := ⟨w.heap.size + 2, 1, none⟩) (by first | (simp; done) | (simp; omega) | omega); simp [go_sem, *] at f1_0_2_1)
  try (have e1_0_3_0 := hb1.cell (p := ⟨w.heap.size + 3, 0, none⟩) (by first | (simp; done) | (simp; omega) | omega); simp [go_sem, *] at e1_0_3_0)
  try (have f1_0_3_0 := hb1.frozen (p := ⟨w.heap.size + 3, 0, none⟩) (by first | (simp; done) | (simp; omega) | omega); simp [go_sem, *] at f1_0_3_0)
  try (have e1_0_3_1 := hb1.cell (p := ⟨w.heap.size + 3, 1, none⟩) (by first | (simp; done) | (simp; omega) | omega); simp [go_sem, *] at e1_0_3_1)
  try (have f1_0_3_1 := hb1.frozen (p := ⟨w.heap.size + 3, 1, none⟩) (by first | (simp; done) | (simp; omega) | omega); simp [go_sem, *] at f1_0_3_1)
  have HB1 := bel_step (w := w) (by (repeat' (first | exact Below.refl _ _ | exact Hid.out (by assumption) | refine Below.alloc ?_ (by first | (simp; done) | (simp; omega) | omega) _ | refine Below.setCell ?_ (by first | (simp; done) | (simp; omega) | omega) _ | refine below_drewN' ?_ _ | refine Below.drew ?_))) hb1
  clear hb1
  go_wp2_with fail
  go_quiet ((first | (go_at_call 156; exact quiet_ex (hTx _ (by (repeat' (first | exact Below.refl _ _ | exact Hid.out (by assumption) | refine Below.alloc ?_ (by first | (simp; done) | (simp; omega) | omega) _ | refine Below.setCell ?_ (by first | (simp; done) | (simp; omega) | omega) _ | refine below_drewN' ?_ _ | refine Below.drew ?_)))))))
  go_wp2_with fail
  refine (trimLeft_no T _ hD.bT).mono ?_; rintro e w2 ⟨rfl, hb2⟩
  have s2 := hb2.size; try simp at s2
  try (have l2_0_0_0 : w.heap.size < w2.heap.size := by omega)
  try (have l2_0_0_1 : w.heap.size < w2.heap.size + 1 := by omega)
  try (have l2_0_0_2 : w.heap.size < w2.heap.size + 1 + 1 := by omega)
  try (have l2_0_1_0 : w.heap.size + 1 < w2.heap.size := by omega)
  try (have l2_0_1_1 : w.heap.size + 1 < w2.heap.size + 1 := by omega)
  try (have l2_0_1_2 : w.heap.size + 1 < w2.heap.size + 1 + 1 := by omega)
  try (have l2_1_0_0 : w1.heap.size < w2.heap.size := by omega)
  try (have l2_1_0_1 : w1.heap.size < w2.heap.size + 1 := by omega)
  try (have l2_1_0_2 : w1.heap.size < w2.heap.size + 1 + 1 := by omega)
  try (have e2_0_0_0 := hb2.cell (p := ⟨w.heap.size, 0, none⟩) (by first | (simp; done) | (simp; omega) | omega); simp [go_sem, *] at e2_0_0_0)
  try (have f2_0_0_0 := hb2.frozen (p := ⟨w.heap.size, 0, none⟩) (by first | (simp; done) | (simp; omega) | omega); simp [go_sem, *] at f2_0_0_0)
  try (have e2_0_0_1 := hb2.cell (p := ⟨w.heap.size, 1, none⟩) (by first | (simp; done) | (simp; omega) | omega); simp [go_sem, *] at e2_0_0_1)
  try (have f2_0_0_1 := hb2.frozen (p := ⟨w.heap.size, 1, none⟩) (by first | (simp; done) | (simp; omega) | omega); simp [go_sem, *] at f2_0_0_1)
  try (have e2_0_1_0 := hb2.cell (p := ⟨w.heap.size + 1, 0, none⟩) (by first | (simp; done) | (simp; omega) | omega); simp [go_sem, *] at e2_0_1_0)
  try (have f2_0_1_0 := hb2.frozen (p := ⟨w.heap.size + 1, 0, none⟩) (by first | (simp; done) | (simp; omega) | omega); simp [go_sem, *] at f2_0_1_0)
  try (have e2_0_1_1 := hb2.cell (p := ⟨w.heap.size + 1, 1, none⟩) (by first | (simp; done) | (simp; omega) | omega); simp [go_sem, *] at e2_0_1_1)
  try (have f2_0_1_1 := hb2.frozen (p := ⟨w.heap.size + 1, 1, none⟩) (by first | (simp; done) | (simp; omega) | omega); simp [go_sem, *] at f2_0_1_1)
  try (have e2_1_0_0 := hb2.cell (p := ⟨w1.heap.size, 0, none⟩) (by first | (simp; done) | (simp; omega) | omega); simp [go_sem, *] at e2_1_0_0)
  try (have f2_1_0_0 := hb2.frozen (p := ⟨w1.heap.size, 0, none⟩) (by first | (simp; done) | (simp; omega) | omega); simp [go_sem, *] at f2_1_0_0)
  try (have e2_1_0_1 := hb2.cell (p := ⟨w1.heap.size, 1, none⟩) (by first | (simp; done) | (simp; omega) | omega); simp [go_sem, *] at e2_1_0_1)
  try (have f2_1_0_1 := hb2.frozen (p := ⟨w1.heap.size, 1, none⟩) (by first | (simp; done) | (simp; omega) | omega); simp [go_sem, *] at f2_1_0_1)
  have HB2 := bel_step (w := w) (by (repeat' (first | exact Below.refl _ _ | exact Hid.out (by assumption) | refine Below.alloc ?_ (by first | (simp; done) | (simp; omega) | omega) _ | refine Below.setCell ?_ (by first | (simp; done) | (simp; omega) | omega) _ | refine below_drewN' ?_ _ | refine Below.drew ?_))) hb2
  clear hb2
  go_wp2_with fail
  refine (trimRight_no T _ hD.bT (by omega)).mono ?_; rintro e w3 ⟨rfl, hb3⟩
  have s3 := hb3.size; try simp at s3
  try (have l3_0_0_0 : w.heap.size < w3.heap.size := by omega)
  try (have l3_0_0_1 : w.heap.size < w3.heap.size + 1 := by omega)
  try (have l3_0_0_2 : w.heap.size < w3.heap.size + 1 + 1 := by omega)
  try (have l3_0_1_0 : w.heap.size + 1 < w3.heap.size := by omega)
  try (have l3_0_1_1 : w.heap.size + 1 < w3.heap.size + 1 := by omega)
  try (have l3_0_1_2 : w.heap.size + 1 < w3.heap.size + 1 + 1 := by omega)
  try (have l3_1_0_0 : w1.heap.size < w3.heap.size := by omega)
  try (have l3_1_0_1 : w1.heap.size < w3.heap.size + 1 := by omega)
  try (have l3_1_0_2 : w1.heap.size < w3.heap.size + 1 + 1 := by omega)
  try (have e3_0_0_0 := hb3.cell (p := ⟨w.heap.size, 0, none⟩) (by first | (simp; done) | (simp; omega) | omega); simp [go_sem, *] at e3_0_0_0)
  try (have f3_0_0_0 := hb3.frozen (p := ⟨w.heap.size, 0, none⟩) (by first | (simp; done) | (simp; omega) | omega); simp [go_sem, *] at f3_0_0_0)
  try (have e3_0_0_1 := hb3.cell (p := ⟨w.heap.size, 1, none⟩) (by first | (simp; done) | (simp; omega) | omega); simp [go_sem, *] at e3_0_0_1)
  try (have f3_0_0_1 := hb3.frozen (p := ⟨w.heap.size, 1, none⟩) (by first | (simp; done) | (simp; omega) | omega); simp [go_sem, *] at f3_0_0_1)
  try (have e3_0_1_0 := hb3.cell (p := ⟨w.heap.size + 1, 0, none⟩) (by first | (simp; done) | (simp; omega) | omega); simp [go_sem, *] at e3_0_1_0)
  try (have f3_0_1_0 := hb3.frozen (p := ⟨w.heap.size + 1, 0, none⟩) (by first | (simp; done) | (simp; omega) | omega); simp [go_sem, *] at f3_0_1_0)
  try (have e3_0_1_1 := hb3.cell (p := ⟨w.heap.size + 1, 1, none⟩) (by first | (simp; done) | (simp; omega) | omega); simp [go_sem, *] at e3_0_1_1)
  try (have f3_0_1_1 := hb3.frozen (p := ⟨w.heap.size + 1, 1, none⟩) (by first | (simp; done) | (simp; omega) | omega); simp [go_sem, *] at f3_0_1_1)
  try (have e3_1_0_0 := hb3.cell (p := ⟨w1.heap.size, 0, none⟩) (by first | (simp; done) | (simp; omega) | omega); simp [go_sem, *] at e3_1_0_0)
  try (have f3_1_0_0 := hb3.frozen (p := ⟨w1.heap.size, 0, none⟩) (by first | (simp; done) | (simp; omega) | omega); simp [go_sem, *] at f3_1_0_0)
  try (have e3_1_0_1 := hb3.cell (p := ⟨w1.heap.size, 1, none⟩) (by first | (simp; done) | (simp; omega) | omega); simp [go_sem, *] at e3_1_0_1)
  try (have f3_1_0_1 := hb3.frozen (p := ⟨w1.heap.size, 1, none⟩) (by first | (simp; done) | (simp; omega) | omega); simp [go_sem, *] at f3_1_0_1)
  have HB3 := bel_step (w := w) (by (repeat' (first | exact Below.refl _ _ | exact Hid.out (by assumption) | refine Below.alloc ?_ (by first | (simp; done) | (simp; omega) | omega) _ | refine Below.setCell ?_ (by first | (simp; done) | (simp; omega) | omega) _ | refine below_drewN' ?_ _ | refine Below.drew ?_))) hb3
  clear hb3
  go_wp2_with fail
  try simp only [Exit.inBlock, Exit.then]
  refine bodyPost_ret (v := .agg #[.int .i64 0, .int .i64 (n : Nat)]) (by simp [results, Tryz.results141, go_sem, *, hs]) rfl ⟨rfl, by (repeat' (first | exact Below.refl _ _ | exact Hid.out (by assumption) | refine Below.alloc ?_ (by first | (simp; done) | (simp; omega) | omega) _ | refine Below.setCell ?_ (by first | (simp; done) | (simp; omega) | omega) _ | refine below_drewN' ?_ _ | refine Below.drew ?_))⟩
set_option maxRecDepth 100000 in
set_option maxHeartbeats 2000000 in
theorem span_1 (p n L : Nat) (T V : ByteArray) (hD : Doc T V n L) (w : World) (h : Ix w p T n) : Calls Tryz.prog 141 #[.agg #[.pointer (some ⟨p, 0, none⟩), .int .i64 1]] w fun e w' => e = .returned (.agg #[.int .i64 1, .int .i64 (L : Nat)]) ∧ Below w.heap.size w w' := by
  have hn := hD.n3
  have hn1 := hD.n1
  have hL := hD.hL
  have hs := hD.hn
  have hv := hD.vs
  have hTx := xtext_q p n L T V hD w h
  have hsl := hD.cut
  go_enter Tryz.func141, Tryz.ntmps141
  go_wp2_with fail
  refine (zone_1 p n L T V hD _ (h.below (by (repeat' (first | exact Below.refl _ _ | exact Hid.out (by assumption) | refine Below.alloc ?_ (by first | (simp; done) | (simp; omega) | omega) _ | refine Below.setCell ?_ (by first | (simp; done) | (simp; omega) | omega) _ | refine below_drewN' ?_ _ | refine Below.drew ?_))))).mono ?_; rintro e w1 ⟨rfl, hb1⟩
  have s1 := hb1.size; try simp at s1
  try (have l1_0_0_0 : w.heap.size < w1.heap.size := by omega)
  try (have l1_0_0_1 : w.heap.size < w1.heap.size + 1 := by omega)
  try (have l1_0_0_2 : w.heap.size < w1.heap.size + 1 + 1 := by omega)
  try (have l1_0_1_0 : w.heap.size + 1 < w1.heap.size := by omega)
  try (have l1_0_1_1 : w.heap.size + 1 < w1.heap.size + 1 := by omega)
  try (have l1_0_1_2 : w.heap.size + 1 < w1.heap.size + 1 + 1 := by omega)
  try (have l1_0_2_0 : w.heap.size + 2 < w1.heap.size := by omega)
  try (have l1_0_2_1 : w.heap.size + 2 < w1.heap.size + 1 := by omega)
  try (have l1_0_2_2 : w.heap.size + 2 < w1.heap.size + 1 + 1 := by omega)
  try (have l1_0_3_0 : w.heap.size + 3 < w1.heap.size := by omega)
  try (have l1_0_3_1 : w.heap.size + 3 < w1.heap.size + 1 := by omega)
  try (have l1_0_3_2 : w.heap.size + 3 < w1.heap.size + 1 + 1 := by omega)
  try (have e1_0_0_0 := hb1.cell (p := ⟨w.heap.size, 0, none⟩) (by first | (simp; done) | (simp; omega) | omega); simp [go_sem, *] at e1_0_0_0)
  try (have f1_0_0_0 := hb1.frozen (p := ⟨w.heap.size, 0, none⟩) (by first | (simp; done) | (simp; omega) | omega); simp [go_sem, *] at f1_0_0_0)
  try (have e1_0_0_1 := hb1.cell (p := ⟨w.heap.size, 1, none⟩) (by first | (simp; done) | (simp; omega) | omega); simp [go_sem, *] at e1_0_0_1)
  try (have f1_0_0_1 := hb1.frozen (p := ⟨w.heap.size, 1, none⟩) (by first | (simp; done) | (simp; omega) | omega); simp [go_sem, *] at f1_0_0_1)
  try (have e1_0_1_0 := hb1.cell (p := ⟨w.heap.size + 1, 0, none⟩) (by first | (simp; done) | (simp; omega) | omega); simp [go_sem, *] at e1_0_1_0)
  try (have f1_0_1_0 := hb1.frozen (p := ⟨w.heap.size + 1, 0, none⟩) (by first | (simp; done) | (simp; omega) | omega); simp [go_sem, *] at f1_0_1_0)
  try (have e1_0_1_1 := hb1.cell (p := ⟨w.heap.size + 1, 1, none⟩) (by first | (simp; done) | (simp; omega) | omega); simp [go_sem, *] at e1_0_1_1)
  try (have f1_0_1_1 := hb1.frozen (p := ⟨w.heap.size + 1, 1, none⟩) (by first | (simp; done) | (simp; omega) | omega); simp [go_sem, *] at f1_0_1_1)
  try (have e1_0_2_0 := hb1.cell (p := ⟨w.heap.size + 2, 0, none⟩) (by first | (simp; done) | (simp; omega) | omega); simp [go_sem, *] at e1_0_2_0)
  try (have f1_0_2_0 := hb1.frozen (p := ⟨w.heap.size + 2, 0, none⟩) (by first | (simp; done) | (simp; omega) | omega); simp [go_sem, *] at f1_0_2_0)
  try (have e1_0_2_1 := hb1.cell (p := ⟨w.heap.size + 2, 1, none⟩) (by first | (simp; done) | (simp; omega) | omega); simp [go_sem, *] at e1_0_2_1)
  try (have f1_0_2_1 := hb1.frozen (p := ⟨w.heap.size + 2, 1, none⟩) (by first | (simp; done) | (simp; omega) | omega); simp [go_sem, *] at f1_0_2_1)
  try (have e1_0_3_0 := hb1.cell (p := ⟨w.heap.size + 3, 0, none⟩) (by first | (simp; done) | (simp; omega) | omega); simp [go_sem, *] at e1_0_3_0)
  try (have f1_0_3_0 := hb1.frozen (p := ⟨w.heap.size + 3, 0, none⟩) (by first | (simp; done) | (simp; omega) | omega); simp [go_sem, *] at f1_0_3_0)
  try (have e1_0_3_1 := hb1.cell (p := ⟨w.heap.size + 3, 1, none⟩) (by first | (simp; done) | (simp; omega) | omega); simp [go_sem, *] at e1_0_3_1)
  try (have f1_0_3_1 := hb1.frozen (p := ⟨w.heap.size + 3, 1, none⟩) (by first | (simp; done) | (simp; omega) | omega); simp [go_sem, *] at f1_0_3_1)
  have HB1 := bel_step (w := w) (by (repeat' (first | exact Below.refl _ _ | exact Hid.out (by assumption) | refine Below.alloc ?_ (by first | (simp; done) | (simp; omega) | omega) _ | refine Below.setCell ?_ (by first | (simp; done) | (simp; omega) | omega) _ | refine below_drewN' ?_ _ | refine Below.drew ?_))) hb1
  clear hb1
  go_wp2_with fail
  go_quiet ((first | (go_at_call 156; exact quiet_ex (hTx _ (by (repeat' (first | exact Below.refl _ _ | exact Hid.out (by assumption) | refine Below.alloc ?_ (by first | (simp; done) | (simp; omega) | omega) _ | refine Below.setCell ?_ (by first | (simp; done) | (simp; omega) | omega) _ | refine below_drewN' ?_ _ | refine Below.drew ?_)))))))
  go_wp2_with fail
  refine (trimLeft_no V _ hD.bV).mono ?_; rintro e w2 ⟨rfl, hb2⟩
  have s2 := hb2.size; try simp at s2
  try (have l2_0_0_0 : w.heap.size < w2.heap.size := by omega)
  try (have l2_0_0_1 : w.heap.size < w2.heap.size + 1 := by omega)
  try (have l2_0_0_2 : w.heap.size < w2.heap.size + 1 + 1 := by omega)
  try (have l2_0_1_0 : w.heap.size + 1 < w2.heap.size := by omega)
  try (have l2_0_1_1 : w.heap.size + 1 < w2.heap.size + 1 := by omega)
  try (have l2_0_1_2 : w.heap.size + 1 < w2.heap.size + 1 + 1 := by omega)
  try (have l2_1_0_0 : w1.heap.size < w2.heap.size := by omega)
  try (have l2_1_0_1 : w1.heap.size < w2.heap.size + 1 := by omega)
  try (have l2_1_0_2 : w1.heap.size < w2.heap.size + 1 + 1 := by omega)
  try (have e2_0_0_0 := hb2.cell (p := ⟨w.heap.size, 0, none⟩) (by first | (simp; done) | (simp; omega) | omega); simp [go_sem, *] at e2_0_0_0)
  try (have f2_0_0_0 := hb2.frozen (p := ⟨w.heap.size, 0, none⟩) (by first | (simp; done) | (simp; omega) | omega); simp [go_sem, *] at f2_0_0_0)
  try (have e2_0_0_1 := hb2.cell (p := ⟨w.heap.size, 1, none⟩) (by first | (simp; done) | (simp; omega) | omega); simp [go_sem, *] at e2_0_0_1)
  try (have f2_0_0_1 := hb2.frozen (p := ⟨w.heap.size, 1, none⟩) (by first | (simp; done) | (simp; omega) | omega); simp [go_sem, *] at f2_0_0_1)
  try (have e2_0_1_0 := hb2.cell (p := ⟨w.heap.size + 1, 0, none⟩) (by first | (simp; done) | (simp; omega) | omega); simp [go_sem, *] at e2_0_1_0)
  try (have f2_0_1_0 := hb2.frozen (p := ⟨w.heap.size + 1, 0, none⟩) (by first | (simp; done) | (simp; omega) | omega); simp [go_sem, *] at f2_0_1_0)
  try (have e2_0_1_1 := hb2.cell (p := ⟨w.heap.size + 1, 1, none⟩) (by first | (simp; done) | (simp; omega) | omega); simp [go_sem, *] at e2_0_1_1)
  try (have f2_0_1_1 := hb2.frozen (p := ⟨w.heap.size + 1, 1, none⟩) (by first | (simp; done) | (simp; omega) | omega); simp [go_sem, *] at f2_0_1_1)
  try (have e2_1_0_0 := hb2.cell (p := ⟨w1.heap.size, 0, none⟩) (by first | (simp; done) | (simp; omega) | omega); simp [go_sem, *] at e2_1_0_0)
  try (have f2_1_0_0 := hb2.frozen (p := ⟨w1.heap.size, 0, none⟩) (by first | (simp; done) | (simp; omega) | omega); simp [go_sem, *] at f2_1_0_0)
  try (have e2_1_0_1 := hb2.cell (p := ⟨w1.heap.size, 1, none⟩) (by first | (simp; done) | (simp; omega) | omega); simp [go_sem, *] at e2_1_0_1)
  try (have f2_1_0_1 := hb2.frozen (p := ⟨w1.heap.size, 1, none⟩) (by first | (simp; done) | (simp; omega) | omega); simp [go_sem, *] at f2_1_0_1)
  have HB2 := bel_step (w := w) (by (repeat' (first | exact Below.refl _ _ | exact Hid.out (by assumption) | refine Below.alloc ?_ (by first | (simp; done) | (simp; omega) | omega) _ | refine Below.setCell ?_ (by first | (simp; done) | (simp; omega) | omega) _ | refine below_drewN' ?_ _ | refine Below.drew ?_))) hb2
  clear hb2
  go_wp2_with fail
  refine (trimRight_no V _ hD.bV (by omega)).mono ?_; rintro e w3 ⟨rfl, hb3⟩
  have s3 := hb3.size; try simp at s3
  try (have l3_0_0_0 : w.heap.size < w3.heap.size := by omega)
  try (have l3_0_0_1 : w.heap.size < w3.heap.size + 1 := by omega)
  try (have l3_0_0_2 : w.heap.size < w3.heap.size + 1 + 1 := by omega)
  try (have l3_0_1_0 : w.heap.size + 1 < w3.heap.size := by omega)
  try (have l3_0_1_1 : w.heap.size + 1 < w3.heap.size + 1 := by omega)
  try (have l3_0_1_2 : w.heap.size + 1 < w3.heap.size + 1 + 1 := by omega)
  try (have l3_1_0_0 : w1.heap.size < w3.heap.size := by omega)
  try (have l3_1_0_1 : w1.heap.size < w3.heap.size + 1 := by omega)
  try (have l3_1_0_2 : w1.heap.size < w3.heap.size + 1 + 1 := by omega)
  try (have e3_0_0_0 := hb3.cell (p := ⟨w.heap.size, 0, none⟩) (by first | (simp; done) | (simp; omega) | omega); simp [go_sem, *] at e3_0_0_0)
  try (have f3_0_0_0 := hb3.frozen (p := ⟨w.heap.size, 0, none⟩) (by first | (simp; done) | (simp; omega) | omega); simp [go_sem, *] at f3_0_0_0)
  try (have e3_0_0_1 := hb3.cell (p := ⟨w.heap.size, 1, none⟩) (by first | (simp; done) | (simp; omega) | omega); simp [go_sem, *] at e3_0_0_1)
  try (have f3_0_0_1 := hb3.frozen (p := ⟨w.heap.size, 1, none⟩) (by first | (simp; done) | (simp; omega) | omega); simp [go_sem, *] at f3_0_0_1)
  try (have e3_0_1_0 := hb3.cell (p := ⟨w.heap.size + 1, 0, none⟩) (by first | (simp; done) | (simp; omega) | omega); simp [go_sem, *] at e3_0_1_0)
  try (have f3_0_1_0 := hb3.frozen (p := ⟨w.heap.size + 1, 0, none⟩) (by first | (simp; done) | (simp; omega) | omega); simp [go_sem, *] at f3_0_1_0)
  try (have e3_0_1_1 := hb3.cell (p := ⟨w.heap.size + 1, 1, none⟩) (by first | (simp; done) | (simp; omega) | omega); simp [go_sem, *] at e3_0_1_1)
  try (have f3_0_1_1 := hb3.frozen (p := ⟨w.heap.size + 1, 1, none⟩) (by first | (simp; done) | (simp; omega) | omega); simp [go_sem, *] at f3_0_1_1)
  try (have e3_1_0_0 := hb3.cell (p := ⟨w1.heap.size, 0, none⟩) (by first | (simp; done) | (simp; omega) | omega); simp [go_sem, *] at e3_1_0_0)
  try (have f3_1_0_0 := hb3.frozen (p := ⟨w1.heap.size, 0, none⟩) (by first | (simp; done) | (simp; omega) | omega); simp [go_sem, *] at f3_1_0_0)
  try (have e3_1_0_1 := hb3.cell (p := ⟨w1.heap.size, 1, none⟩) (by first | (simp; done) | (simp; omega) | omega); simp [go_sem, *] at e3_1_0_1)
  try (have f3_1_0_1 := hb3.frozen (p := ⟨w1.heap.size, 1, none⟩) (by first | (simp; done) | (simp; omega) | omega); simp [go_sem, *] at f3_1_0_1)
  have HB3 := bel_step (w := w) (by (repeat' (first | exact Below.refl _ _ | exact Hid.out (by assumption) | refine Below.alloc ?_ (by first | (simp; done) | (simp; omega) | omega) _ | refine Below.setCell ?_ (by first | (simp; done) | (simp; omega) | omega) _ | refine below_drewN' ?_ _ | refine Below.drew ?_))) hb3
  clear hb3
  go_wp2_with fail
  try simp only [Exit.inBlock, Exit.then]
  refine bodyPost_ret (v := .agg #[.int .i64 1, .int .i64 (L : Nat)]) (by simp [results, Tryz.results141, go_sem, *]; omega) rfl ⟨rfl, by (repeat' (first | exact Below.refl _ _ | exact Hid.out (by assumption) | refine Below.alloc ?_ (by first | (simp; done) | (simp; omega) | omega) _ | refine Below.setCell ?_ (by first | (simp; done) | (simp; omega) | omega) _ | refine below_drewN' ?_ _ | refine Below.drew ?_))⟩
set_option maxRecDepth 100000 in
set_option maxHeartbeats 2000000 in
theorem raw_r (p n L : Nat) (T V : ByteArray) (hD : Doc T V n L) (w : World) (h : Ix w p T n) : Calls Tryz.prog 105 #[.agg #[.pointer (some ⟨p, 0, none⟩), .int .i64 (-1)]] w fun e w' => e = .returned (.string T) ∧ Below w.heap.size w w' := by
  have hn := hD.n3
  have hn1 := hD.n1
  have hL := hD.hL
  have hs := hD.hn
  have hv := hD.vs
  have hTx := xtext_q p n L T V hD w h
  have hsl := hD.all
  go_enter Tryz.func105, Tryz.ntmps105
  go_wp2_with fail
  refine (span_r p n L T V hD _ (h.below (by (repeat' (first | exact Below.refl _ _ | exact Hid.out (by assumption) | refine Below.alloc ?_ (by first | (simp; done) | (simp; omega) | omega) _ | refine Below.setCell ?_ (by first | (simp; done) | (simp; omega) | omega) _ | refine below_drewN' ?_ _ | refine Below.drew ?_))))).mono ?_; rintro e w1 ⟨rfl, hb1⟩
  have s1 := hb1.size; try simp at s1
  try (have l1_0_0_0 : w.heap.size < w1.heap.size := by omega)
  try (have l1_0_0_1 : w.heap.size < w1.heap.size + 1 := by omega)
  try (have l1_0_0_2 : w.heap.size < w1.heap.size + 1 + 1 := by omega)
  try (have l1_0_1_0 : w.heap.size + 1 < w1.heap.size := by omega)
  try (have l1_0_1_1 : w.heap.size + 1 < w1.heap.size + 1 := by omega)
  try (have l1_0_1_2 : w.heap.size + 1 < w1.heap.size + 1 + 1 := by omega)
  try (have l1_0_2_0 : w.heap.size + 2 < w1.heap.size := by omega)
  try (have l1_0_2_1 : w.heap.size + 2 < w1.heap.size + 1 := by omega)
  try (have l1_0_2_2 : w.heap.size + 2 < w1.heap.size + 1 + 1 := by omega)
  try (have e1_0_0_0 := hb1.cell (p := ⟨w.heap.size, 0, none⟩) (by first | (simp; done) | (simp; omega) | omega); simp [go_sem, *] at e1_0_0_0)
  try (have f1_0_0_0 := hb1.frozen (p := ⟨w.heap.size, 0, none⟩) (by first | (simp; done) | (simp; omega) | omega); simp [go_sem, *] at f1_0_0_0)
  try (have e1_0_0_1 := hb1.cell (p := ⟨w.heap.size, 1, none⟩) (by first | (simp; done) | (simp; omega) | omega); simp [go_sem, *] at e1_0_0_1)
  try (have f1_0_0_1 := hb1.frozen (p := ⟨w.heap.size, 1, none⟩) (by first | (simp; done) | (simp; omega) | omega); simp [go_sem, *] at f1_0_0_1)
  try (have e1_0_1_0 := hb1.cell (p := ⟨w.heap.size + 1, 0, none⟩) (by first | (simp; done) | (simp; omega) | omega); simp [go_sem, *] at e1_0_1_0)
  try (have f1_0_1_0 := hb1.frozen (p := ⟨w.heap.size + 1, 0, none⟩) (by first | (simp; done) | (simp; omega) | omega); simp [go_sem, *] at f1_0_1_0)
  try (have e1_0_1_1 := hb1.cell (p := ⟨w.heap.size + 1, 1, none⟩) (by first | (simp; done) | (simp; omega) | omega); simp [go_sem, *] at e1_0_1_1)
  try (have f1_0_1_1 := hb1.frozen (p := ⟨w.heap.size + 1, 1, none⟩) (by first | (simp; done) | (simp; omega) | omega); simp [go_sem, *] at f1_0_1_1)
  try (have e1_0_2_0 := hb1.cell (p := ⟨w.heap.size + 2, 0, none⟩) (by first | (simp; done) | (simp; omega) | omega); simp [go_sem, *] at e1_0_2_0)
  try (have f1_0_2_0 := hb1.frozen (p := ⟨w.heap.size + 2, 0, none⟩) (by first | (simp; done) | (simp; omega) | omega); simp [go_sem, *] at f1_0_2_0)
  try (have e1_0_2_1 := hb1.cell (p := ⟨w.heap.size + 2, 1, none⟩) (by first | (simp; done) | (simp; omega) | omega); simp [go_sem, *] at e1_0_2_1)
  try (have f1_0_2_1 := hb1.frozen (p := ⟨w.heap.size + 2, 1, none⟩) (by first | (simp; done) | (simp; omega) | omega); simp [go_sem, *] at f1_0_2_1)
  have HB1 := bel_step (w := w) (by (repeat' (first | exact Below.refl _ _ | exact Hid.out (by assumption) | refine Below.alloc ?_ (by first | (simp; done) | (simp; omega) | omega) _ | refine Below.setCell ?_ (by first | (simp; done) | (simp; omega) | omega) _ | refine below_drewN' ?_ _ | refine Below.drew ?_))) hb1
  clear hb1
  go_wp2_with fail
  go_quiet ((first | (go_at_call 156; exact quiet_ex (hTx _ (by (repeat' (first | exact Below.refl _ _ | exact Hid.out (by assumption) | refine Below.alloc ?_ (by first | (simp; done) | (simp; omega) | omega) _ | refine Below.setCell ?_ (by first | (simp; done) | (simp; omega) | omega) _ | refine below_drewN' ?_ _ | refine Below.drew ?_)))))))
  go_wp2_with fail
  go_ret
  exact ⟨rfl, by (repeat' (first | exact Below.refl _ _ | exact Hid.out (by assumption) | refine Below.alloc ?_ (by first | (simp; done) | (simp; omega) | omega) _ | refine Below.setCell ?_ (by first | (simp; done) | (simp; omega) | omega) _ | refine below_drewN' ?_ _ | refine Below.drew ?_))⟩
set_option maxRecDepth 100000 in
set_option maxHeartbeats 2000000 in
theorem raw_1 (p n L : Nat) (T V : ByteArray) (hD : Doc T V n L) (w : World) (h : Ix w p T n) : Calls Tryz.prog 105 #[.agg #[.pointer (some ⟨p, 0, none⟩), .int .i64 1]] w fun e w' => e = .returned (.string V) ∧ Below w.heap.size w w' := by
  have hn := hD.n3
  have hn1 := hD.n1
  have hL := hD.hL
  have hs := hD.hn
  have hv := hD.vs
  have hTx := xtext_q p n L T V hD w h
  have hsl := hD.cut
  go_enter Tryz.func105, Tryz.ntmps105
  go_wp2_with fail
  refine (span_1 p n L T V hD _ (h.below (by (repeat' (first | exact Below.refl _ _ | exact Hid.out (by assumption) | refine Below.alloc ?_ (by first | (simp; done) | (simp; omega) | omega) _ | refine Below.setCell ?_ (by first | (simp; done) | (simp; omega) | omega) _ | refine below_drewN' ?_ _ | refine Below.drew ?_))))).mono ?_; rintro e w1 ⟨rfl, hb1⟩
  have s1 := hb1.size; try simp at s1
  try (have l1_0_0_0 : w.heap.size < w1.heap.size := by omega)
  try (have l1_0_0_1 : w.heap.size < w1.heap.size + 1 := by omega)
  try (have l1_0_0_2 : w.heap.size < w1.heap.size + 1 + 1 := by omega)
  try (have l1_0_1_0 : w.heap.size + 1 < w1.heap.size := by omega)
  try (have l1_0_1_1 : w.heap.size + 1 < w1.heap.size + 1 := by omega)
  try (have l1_0_1_2 : w.heap.size + 1 < w1.heap.size + 1 + 1 := by omega)
  try (have l1_0_2_0 : w.heap.size + 2 < w1.heap.size := by omega)
  try (have l1_0_2_1 : w.heap.size + 2 < w1.heap.size + 1 := by omega)
  try (have l1_0_2_2 : w.heap.size + 2 < w1.heap.size + 1 + 1 := by omega)
  try (have e1_0_0_0 := hb1.cell (p := ⟨w.heap.size, 0, none⟩) (by first | (simp; done) | (simp; omega) | omega); simp [go_sem, *] at e1_0_0_0)
  try (have f1_0_0_0 := hb1.frozen (p := ⟨w.heap.size, 0, none⟩) (by first | (simp; done) | (simp; omega) | omega); simp [go_sem, *] at f1_0_0_0)
  try (have e1_0_0_1 := hb1.cell (p := ⟨w.heap.size, 1, none⟩) (by first | (simp; done) | (simp; omega) | omega); simp [go_sem, *] at e1_0_0_1)
  try (have f1_0_0_1 := hb1.frozen (p := ⟨w.heap.size, 1, none⟩) (by first | (simp; done) | (simp; omega) | omega); simp [go_sem, *] at f1_0_0_1)
  try (have e1_0_1_0 := hb1.cell (p := ⟨w.heap.size + 1, 0, none⟩) (by first | (simp; done) | (simp; omega) | omega); simp [go_sem, *] at e1_0_1_0)
  try (have f1_0_1_0 := hb1.frozen (p := ⟨w.heap.size + 1, 0, none⟩) (by first | (simp; done) | (simp; omega) | omega); simp [go_sem, *] at f1_0_1_0)
  try (have e1_0_1_1 := hb1.cell (p := ⟨w.heap.size + 1, 1, none⟩) (by first | (simp; done) | (simp; omega) | omega); simp [go_sem, *] at e1_0_1_1)
  try (have f1_0_1_1 := hb1.frozen (p := ⟨w.heap.size + 1, 1, none⟩) (by first | (simp; done) | (simp; omega) | omega); simp [go_sem, *] at f1_0_1_1)
  try (have e1_0_2_0 := hb1.cell (p := ⟨w.heap.size + 2, 0, none⟩) (by first | (simp; done) | (simp; omega) | omega); simp [go_sem, *] at e1_0_2_0)
  try (have f1_0_2_0 := hb1.frozen (p := ⟨w.heap.size + 2, 0, none⟩) (by first | (simp; done) | (simp; omega) | omega); simp [go_sem, *] at f1_0_2_0)
  try (have e1_0_2_1 := hb1.cell (p := ⟨w.heap.size + 2, 1, none⟩) (by first | (simp; done) | (simp; omega) | omega); simp [go_sem, *] at e1_0_2_1)
  try (have f1_0_2_1 := hb1.frozen (p := ⟨w.heap.size + 2, 1, none⟩) (by first | (simp; done) | (simp; omega) | omega); simp [go_sem, *] at f1_0_2_1)
  have HB1 := bel_step (w := w) (by (repeat' (first | exact Below.refl _ _ | exact Hid.out (by assumption) | refine Below.alloc ?_ (by first | (simp; done) | (simp; omega) | omega) _ | refine Below.setCell ?_ (by first | (simp; done) | (simp; omega) | omega) _ | refine below_drewN' ?_ _ | refine Below.drew ?_))) hb1
  clear hb1
  go_wp2_with fail
  go_quiet ((first | (go_at_call 156; exact quiet_ex (hTx _ (by (repeat' (first | exact Below.refl _ _ | exact Hid.out (by assumption) | refine Below.alloc ?_ (by first | (simp; done) | (simp; omega) | omega) _ | refine Below.setCell ?_ (by first | (simp; done) | (simp; omega) | omega) _ | refine below_drewN' ?_ _ | refine Below.drew ?_)))))))
  go_wp2_with fail
  go_ret
  exact ⟨rfl, by (repeat' (first | exact Below.refl _ _ | exact Hid.out (by assumption) | refine Below.alloc ?_ (by first | (simp; done) | (simp; omega) | omega) _ | refine Below.setCell ?_ (by first | (simp; done) | (simp; omega) | omega) _ | refine below_drewN' ?_ _ | refine Below.drew ?_))⟩
end Go.Proofs.YtjelneeeijjpiaaGreatDoor
end
