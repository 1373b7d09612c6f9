/- TopText: walks and plain laws, part 9: lemmas on what the functions that the law comes to compute. -/
import Derived.Test.YtjelneeeijjpiaaGreatDoorG08
import Derived.Test.YtjelneeeijjpiaaGreatDoorG04
import Derived.RangeFuncBox
import Derived.Test.YtjelneeeijjpiaaGreatDoorG06
import Derived.Deep.LoopGhost
set_option linter.unusedVariables false
set_option linter.unusedSimpArgs false
section
namespace Go.Proofs.YtjelneeeijjpiaaGreatDoor
open Go.RowKit
def Ns (w : World) (p b : Nat) : Prop := ∃ T C, p < w.heap.size ∧ w.cell? ⟨p, 0, none⟩ = some (.pointer (some ⟨b, 0, none⟩)) ∧ w.cell? ⟨p, 1, none⟩ = some (.pointer (some ⟨T, 0, none⟩)) ∧ w.cell? ⟨p, 2, none⟩ = some (.pointer (some ⟨C, 0, none⟩)) ∧ Rw w b 3 4 ∧ Tr w T b ∧ Ch w C b 2
theorem Ns.below {w w' : World} {p b : Nat} (h : Ns w p b) (hb : Below w.heap.size w w') : Ns w' p b := by
  obtain ⟨T, C, a1, c0, c1, c2, hR, hT, hC⟩ := h
  exact ⟨T, C, Nat.lt_of_lt_of_le a1 hb.size, (hb.cell (p := ⟨p, 0, none⟩) a1).trans c0, (hb.cell (p := ⟨p, 1, none⟩) a1).trans c1, (hb.cell (p := ⟨p, 2, none⟩) a1).trans c2, hR.below hb, hT.below hb, hC.below hb⟩
theorem Ns.drewN {w : World} {p b : Nat} (h : Ns w p b) (m : Nat) : Ns (w.drewN m) p b := h.below (below_drewN (Below.refl _ _) m)
theorem bxx {w w1 w2 : World} (h : Hid (Below w.heap.size w w1)) (k : Below w1.heap.size w1 w2) : Hid (Below w.heap.size w w2) := Lib.hid (h.out.trans (k.mono h.out.size))
set_option maxRecDepth 100000 in
set_option maxHeartbeats 1000000 in
theorem nnew_any (b : Nat) (w : World) (h : Rw w b 3 4) : Calls Tryz.prog 42 #[.pointer (some ⟨b, 0, none⟩)] w fun e w' => ∃ p, e = .returned (.tuple #[.pointer (some ⟨p, 0, none⟩), .int .i64 0]) ∧ Below w.heap.size w w' ∧ Ns w' p b := by
  go_enter Tryz.func42, Tryz.ntmps42
  go_wp2_with fail
  refine (tnew_any b _ h).mono ?_; rintro e w1 ⟨rfl, hb1, ht1⟩
  have HB1 := Lib.hid hb1
  have HT1 := Lib.hid ht1
  clear hb1 ht1
  go_wp2_with fail
  refine (balanced_any _ b _ (h.below HB1.out) HT1.out).mono ?_; rintro e w2 ⟨rfl, m2, rfl⟩
  go_wp2_with fail
  refine (cnew_any b 3 4 2 _ ((h.below HB1.out).drewN _) (by omega) (by omega) (by omega) (by decide) (by decide) (by omega)).mono ?_; rintro e w3 ⟨C, rfl, hb3, hc3⟩
  have HB3 : Hid (Below w1.heap.size w1 w3) := Lib.hid ((below_drewN (Below.refl _ w1) m2).trans hb3)
  have HC3 := Lib.hid hc3
  clear hb3 hc3
  go_wp2_with fail
  go_ret2
  have ha : Below w3.heap.size w3 (w3.alloc (.cells #[.pointer (some ⟨b, 0, none⟩), .pointer (some ⟨w.heap.size, 0, none⟩), .pointer (some ⟨C, 0, none⟩)] 174)) := (Below.refl _ _).alloc (Nat.le_refl _) _
  have hw3 := bxx HB1 HB3.out
  exact ⟨_, rfl, (bxx hw3 ha).out, w.heap.size, C, by simp, by simp [go_sem], by simp [go_sem], by simp [go_sem], (h.below hw3.out).below ha, (HT1.out.below HB3.out).below ha, HC3.out.below ha⟩
set_option maxRecDepth 100000 in
set_option maxHeartbeats 1000000 in
theorem node_any (p b i : Nat) (w : World) (h : Ns w p b) (hi : i < 4) : Calls Tryz.prog 293 #[.pointer (some ⟨p, 0, none⟩), .int .i64 (i : Nat)] w fun e w' => e = .returned (.bool (3 / 2 ^ i % 2 == 1)) ∧ ∃ m, w' = w.drewN m := by
  obtain ⟨T, C, a1, c0, c1, c2, hR, hT, hC⟩ := h
  have hg := fun w h => get_any b 3 4 i w h (by omega) hi (by omega)
  generalize (3 / 2 ^ i % 2 == 1) = r at hg ⊢
  go_enter Tryz.func293, Tryz.ntmps293
  go_wp2_with (first | (go_at_call 135; refine (hg _ hR).mono ?_; rintro e w1 ⟨rfl, rfl⟩))
  go_ret
  exact ⟨rfl, 0, rfl⟩
set_option maxRecDepth 100000 in
set_option maxHeartbeats 1000000 in
theorem nclose_any (p b : Nat) (w : World) (h : Ns w p b) : Calls Tryz.prog 294 #[.pointer (some ⟨p, 0, none⟩), .int .i64 1] w fun e w' => e = .returned (.int .i64 2) ∧ ∃ m, w' = w.drewN m := by
  obtain ⟨T, C, a1, c0, c1, c2, hR, hT, hC⟩ := h
  go_enter Tryz.func294, Tryz.ntmps294
  go_wp2_with (first | (go_at_call 333; refine (tforth_any T b _ hR hT).mono ?_; rintro e w1 ⟨rfl, m1, rfl⟩))
  go_ret
  exact ⟨rfl, _, rfl⟩
theorem node_1 (p b : Nat) (w : World) (h : Ns w p b) : Calls Tryz.prog 293 #[.pointer (some ⟨p, 0, none⟩), .int .i64 1] w fun e w' => e = .returned (.bool true) ∧ ∃ m, w' = w.drewN m := node_any p b 1 w h (by omega)
theorem node_3 (p b : Nat) (w : World) (h : Ns w p b) : Calls Tryz.prog 293 #[.pointer (some ⟨p, 0, none⟩), .int .i64 3] w fun e w' => e = .returned (.bool false) ∧ ∃ m, w' = w.drewN m := node_any p b 3 w h (by omega)
theorem node_0 (p b : Nat) (w : World) (h : Ns w p b) : Calls Tryz.prog 293 #[.pointer (some ⟨p, 0, none⟩), .int .i64 0] w fun e w' => e = .returned (.bool true) ∧ ∃ m, w' = w.drewN m := node_any p b 0 w h (by omega)
set_option maxRecDepth 100000 in
set_option maxHeartbeats 1000000 in
theorem nClose_any (p b : Nat) (w : World) (h : Ns w p b) : Calls Tryz.prog 240 #[.pointer (some ⟨p, 0, none⟩), .int .i64 1] w fun e w' => e = .returned (.tuple #[.int .i64 2, .int .i64 0]) ∧ ∃ m, w' = w.drewN m := by
  go_enter Tryz.func240, Tryz.ntmps240
  go_wp2_with fail
  refine (node_1 p b _ h).mono ?_; rintro e w1 ⟨rfl, m1, rfl⟩
  go_wp2_with fail
  refine (nclose_any p b _ (h.drewN _)).mono ?_; rintro e w1 ⟨rfl, m2, rfl⟩
  go_wp2_with fail
  go_ret2
  exact ⟨rfl, _, rfl⟩
set_option maxRecDepth 100000 in
set_option maxHeartbeats 1000000 in
theorem nParent_any (p b : Nat) (w : World) (h : Ns w p b) : Calls Tryz.prog 299 #[.pointer (some ⟨p, 0, none⟩), .int .i64 1] w fun e w' => e = .returned (.tuple #[.int .i64 0, .int .i64 0]) ∧ ∃ m, w' = w.drewN m := by
  obtain ⟨T, C, a1, c0, c1, c2, hR, hT, hC⟩ := id h
  go_enter Tryz.func299, Tryz.ntmps299
  go_wp2_with fail
  refine (node_1 p b _ h).mono ?_; rintro e w1 ⟨rfl, m1, rfl⟩
  go_wp2_with fail
  refine (tback_any T b _ (hR.drewN _) (hT.drewN _)).mono ?_; rintro e w1 ⟨rfl, m2, rfl⟩
  go_wp2
  go_ret2
  exact ⟨rfl, _, rfl⟩
end Go.Proofs.YtjelneeeijjpiaaGreatDoor
end
section
namespace Go.Proofs.YtjelneeeijjpiaaGreatDoor
open Go.RowKit
structure Oth (w w' : World) (p g : Nat) : Prop where
  size : w.heap.size ≤ w'.heap.size
  cell : ∀ a : Addr, a.block < w.heap.size → a.block ≠ p → a.block ≠ g → w'.cell? a = w.cell? a
  froz : ∀ a : Addr, a.block < w.heap.size → a.block ≠ p → a.block ≠ g → w'.frozen? a = w.frozen? a
  bel : ∀ B, B ≤ p → B ≤ g → B ≤ w.heap.size → Below B w w'
structure Bd (w : World) (p g x n : Nat) : Prop where
  hp : p < w.heap.size
  c1 : w.cell? ⟨p, 1, none⟩ = some (.int .i64 (n : Nat))
  f0 : w.frozen? ⟨p, 0, none⟩ = false
  f1 : w.frozen? ⟨p, 1, none⟩ = false
  none : n = 0 → w.cell? ⟨p, 0, Option.none⟩ = some (.slice Option.none 0 0) ∧ x = 0
  some : 0 < n → g ≠ p ∧ g < w.heap.size ∧ w.cell? ⟨g, 0, Option.none⟩ = Option.some (.int .u64 (x : Nat)) ∧ w.frozen? ⟨g, 0, Option.none⟩ = false ∧ ∃ cap, w.cell? ⟨p, 0, Option.none⟩ = Option.some (.slice (Option.some ⟨g, 0, Option.none⟩) 1 cap)
theorem aux_le (f x : Nat) : Lib.bitLenAux f x ≤ f := by
  induction f generalizing x with
  | zero => simp [Lib.bitLenAux]
  | succ f ih => unfold Lib.bitLenAux; split <;> first | omega | (have := ih (x / 2); omega)
theorem bitLen_le (x k : Nat) (h : x < 2 ^ k) (hk : k ≤ 64) : Lib.bitLen x ≤ k := by
  rw [Lib.bitLen, Lib.bitLenAux_fuel k x h 64 hk]; exact aux_le k x
theorem need_small (v k : Nat) (hv : v < 2 ^ k) (hk : k ≤ 16) (w : World) : Calls Tryz.prog 119 #[.int .u64 (v : Nat)] w fun e w' => ∃ r : Nat, e = .returned (.int .i64 (r : Nat)) ∧ r ≤ k ∧ w = w' := by
  have h16 : v < 65536 := Nat.lt_of_lt_of_le hv (Nat.pow_le_pow_right (by decide) hk)
  go_enter Tryz.func119, Tryz.ntmps119
  go_wp2_with fail
  refine (Tryz.bits_Len64 (v : Int) _ (by omega) (by omega)).mono ?_; rintro e w1 ⟨rfl, rfl⟩
  go_wp2_with fail
  go_ret
  exact ⟨Lib.bitLen v, rfl, bitLen_le v k hv (by omega), rfl⟩
theorem ofInt_64 (a : Nat) (ha : a < 18446744073709551616) : (BitVec.ofInt 64 (a : Int)).toNat = a := by
  rw [BitVec.toNat_ofInt]; omega
theorem u64_or_nat (a b : Nat) (ha : a < 18446744073709551616) (hb : b < 18446744073709551616) : bits .or .u64 (a : Int) (b : Int) = ((a ||| b : Nat) : Int) := by
  have h : a ||| b < 2 ^ 64 := Nat.or_lt_two_pow ha hb
  show IntKind.u64.wrap ((BitVec.ofInt 64 (a : Int) ||| BitVec.ofInt 64 (b : Int)).toNat : Nat) = _
  rw [BitVec.toNat_or, ofInt_64 _ ha, ofInt_64 _ hb, IntKind.wrap_u64]
  omega
theorem or_add (x v n : Nat) (hx : x < 2 ^ n) : x ||| (v * 2 ^ n) = x + v * 2 ^ n := by
  have := Nat.shiftLeft_add_eq_or_of_lt hx v
  rw [Nat.shiftLeft_eq] at this
  rw [Nat.or_comm, ← this, Nat.add_comm]
set_option maxRecDepth 100000 in
set_option maxHeartbeats 1000000 in
theorem put_next (p g x n v k : Nat) (w : World) (h : Bd w p g x n) (hn : 0 < n) (hn2 : n + k ≤ 60) (hv : v < 2 ^ k) (hk : k ≤ 16) (hk1 : 1 ≤ k) (hx : x < 2 ^ n) : Calls Tryz.prog 120 #[.pointer (some ⟨p, 0, none⟩), .int .u64 (v : Nat), .int .i64 (k : Nat)] w fun e w' => e = .returned (.int .i64 0) ∧ Bd w' p g (x + v * 2 ^ n) (n + k) ∧ Oth w w' p g := by
  obtain ⟨q1, q2, q3, q4, cap, q5⟩ := h.some hn
  have c1 := h.c1
  have f0 := h.f0
  have f1 := h.f1
  have hps := h.hp
  clear h
  obtain ⟨sh, hsh⟩ : ∃ sh, v * 2 ^ n = sh := ⟨_, rfl⟩
  have hshb : sh < 2 ^ 60 := by
    rw [← hsh]
    calc v * 2 ^ n < 2 ^ k * 2 ^ n := Nat.mul_lt_mul_of_pos_right hv (Nat.pow_pos (by decide))
      _ = 2 ^ (k + n) := by rw [Nat.pow_add]
      _ ≤ 2 ^ 60 := Nat.pow_le_pow_right (by decide) (by omega)
  have hxb : x < 2 ^ 60 := Nat.lt_of_lt_of_le hx (Nat.pow_le_pow_right (by decide) (by omega))
  obtain ⟨y, hy⟩ : ∃ y, x + sh = y := ⟨_, rfl⟩
  have hOr : bits .or .u64 (x : Int) (sh : Int) = (y : Int) := by
    rw [u64_or_nat x sh (by omega) (by omega), ← hsh, or_add x v n hx, hsh, hy]
  have hS : IntKind.u64.wrap ((v : Int) * 2 ^ n) = (sh : Int) := by
    have e : ((v : Int) * 2 ^ n) = (sh : Int) := by rw [← hsh]; simp
    rw [e, IntKind.wrap_u64]; omega
  rw [hsh, hy]
  have w0 : IntKind.i64.wrap 0 = 0 := by decide
  have k1 : ¬ (k : Int) < 0 := by omega
  have k2 : ¬ (64 : Int) < (k : Int) := by omega
  have k3 : ((k : Int) == 0) = false := by rw [beq_eq_false_iff_ne]; omega
  have k4 : (n : Int).tmod 64 = n := by rw [Int.tmod_eq_emod_of_nonneg (by omega)]; omega
  have k5 : ((n : Int) == 0) = false := by rw [beq_eq_false_iff_ne]; omega
  have k6 : ¬ (4294967296 : Int) - (n : Int) < (k : Int) := by omega
  have k7 : ¬ (64 : Int) < (n : Int) + (k : Int) := by omega
  go_enter Tryz.func120, Tryz.ntmps120
  go_wp2_with fail
  refine (need_small v k hv hk _).mono ?_; rintro e w1 ⟨r, rfl, hr, rfl⟩
  have k8 : ¬ (k : Int) < (r : Int) := by omega
  go_wp2_with fail
  go_region_law (fail)
  all_goals
    have p1 : (w.setCell ⟨g, 0, Option.none⟩ (.int .u64 (y : Nat))).cell? ⟨p, 1, Option.none⟩ = some (.int .i64 (n : Nat)) := by rw [cell_set_ne (by simpa using Ne.symm q1)]; exact c1
    have p2 : (w.setCell ⟨g, 0, Option.none⟩ (.int .u64 (y : Nat))).frozen? ⟨p, 1, Option.none⟩ = false := by rw [World.frozen?_setCell]; exact f1
    go_wp2_with fail
    go_ret
    refine ⟨rfl, ⟨by simpa [World.setCell] using hps, ?_, by simp [go_sem, f0], by simp [go_sem, f1], fun h0 => absurd h0 (by omega), fun _ => ⟨q1, by simpa [World.setCell] using q2, ?_, by simp [go_sem, q4], cap, ?_⟩⟩, ⟨by simp [World.setCell], ?_, ?_, ?_⟩⟩
    · rw [World.cell?_drew]; rw [World.cell?_setCell_same _ _ _ p1]; rfl
    · rw [World.cell?_drew, cell_set_ne (by first | exact Ne.symm q1 | exact q1), World.cell?_setCell_same _ _ _ q3]
    · rw [World.cell?_drew, World.cell?_setCell_other _ _ _ _ (by simp), cell_set_ne (by simpa using Ne.symm q1)]; exact q5
    · intro a h1 h2 h3
      rw [World.cell?_drew, cell_set_ne h2, cell_set_ne h3]
    · intro a h1 h2 h3
      simp [go_sem]
    · intro B h1 h2 h3
      exact (((Below.refl _ _).setCell h2 _).setCell h1 _).drew
set_option maxRecDepth 100000 in
set_option maxHeartbeats 1000000 in
theorem put_first (p g v k : Nat) (w : World) (h : Bd w p g 0 0) (hv : v < 2 ^ k) (hk : k ≤ 16) (hk1 : 1 ≤ k) : Calls Tryz.prog 120 #[.pointer (some ⟨p, 0, none⟩), .int .u64 (v : Nat), .int .i64 (k : Nat)] w fun e w' => e = .returned (.int .i64 0) ∧ ∃ g, Bd w' p g v k ∧ w.heap.size ≤ g ∧ Oth w w' p g := by
  obtain ⟨c0, -⟩ := h.none rfl
  have c1 := h.c1
  have f0 := h.f0
  have f1 := h.f1
  have hps := h.hp
  clear h
  have k1 : ¬ (k : Int) < 0 := by omega
  have k2 : ¬ (64 : Int) < (k : Int) := by omega
  have k3 : ((k : Int) == 0) = false := by rw [beq_eq_false_iff_ne]; omega
  have k6 : ¬ (4294967296 : Int) < (k : Int) := by omega
  go_enter Tryz.func120, Tryz.ntmps120
  go_wp2_with fail
  refine (need_small v k hv hk _).mono ?_; rintro e w1 ⟨r, rfl, hr, rfl⟩
  have k8 : ¬ (k : Int) < (r : Int) := by omega
  go_wp2_with fail
  generalize (Question.appendCap 1 0 105).cut (w.tape w.drawn (Question.appendCap 1 0 105)) = cap
  have hb2 : ∀ (W : World) (x y : Obj), Below W.heap.size W ((W.alloc x).alloc y).drew := fun W x y => (((Below.refl _ W).alloc (Nat.le_refl _) _).alloc (by simp) _).drew
  have hfr : ∀ (a : Addr) (c d : Value) (x y : Obj), a.block < w.heap.size → (((((w.setCell ⟨p, 0, none⟩ c).setCell ⟨p, 1, none⟩ d).alloc x).alloc y).drew).frozen? a = w.frozen? a := by
    intro a c d x y ha
    rw [(hb2 ((w.setCell ⟨p, 0, none⟩ c).setCell ⟨p, 1, none⟩ d) x y).frozen (by simpa [World.setCell] using ha), World.frozen?_setCell, World.frozen?_setCell]
  go_ret
  refine ⟨rfl, w.heap.size + 1, ⟨by simpa [World.setCell] using Nat.lt_trans hps (by omega), ?_, ?_, ?_, fun h0 => absurd h0 (by omega), fun _ => ⟨by omega, by simp [World.setCell], ?_, ?_, cap, ?_⟩⟩, by omega, ⟨by simp [World.setCell]; omega, ?_, ?_, ?_⟩⟩
  · simp [go_sem, c1, hps]
  · exact (hfr _ _ _ _ _ hps).trans f0
  · exact (hfr _ _ _ _ _ hps).trans f1
  · simp [go_sem]
    rw [Array.getElem?_append_left (by simp)]; rfl
  · simp [go_sem]
  · simp [go_sem, c0, hps]
  · intro a h1 h2 h3
    simp [go_sem, h1]
    rw [cell_set_ne h2, cell_set_ne h2]
  · intro a h1 h2 h3
    exact hfr a _ _ _ _ h1
  · intro B h1 h2 h3
    exact (((((Below.refl _ _).setCell h1 _).setCell h1 _).alloc (by simpa [World.setCell] using h3) _).alloc (by simp [World.setCell]; omega) _).drew
theorem put_any (p g x n v k : Nat) (w : World) (h : Bd w p g x n) (hn2 : n + k ≤ 60) (hv : v < 2 ^ k) (hk : k ≤ 16) (hk1 : 1 ≤ k) (hx : x < 2 ^ n) : Calls Tryz.prog 120 #[.pointer (some ⟨p, 0, none⟩), .int .u64 (v : Nat), .int .i64 (k : Nat)] w fun e w' => e = .returned (.int .i64 0) ∧ ∃ g', Bd w' p g' (x + v * 2 ^ n) (n + k) ∧ (n = 0 → w.heap.size ≤ g') ∧ (0 < n → g' = g) ∧ Oth w w' p g' := by
  rcases Nat.eq_zero_or_pos n with rfl | h0
  · obtain ⟨-, rfl⟩ := h.none rfl
    refine (put_first p g v k w h hv hk hk1).mono ?_
    rintro e w' ⟨rfl, g', a, b, c⟩
    exact ⟨rfl, g', by simpa using a, fun _ => b, fun h => absurd h (by omega), c⟩
  · refine (put_next p g x n v k w h h0 hn2 hv hk hk1 hx).mono ?_
    rintro e w' ⟨rfl, a, b⟩
    exact ⟨rfl, g, a, fun h => absurd h (by omega), fun _ => rfl, b⟩
end Go.Proofs.YtjelneeeijjpiaaGreatDoor
end
section
namespace Go.Proofs.YtjelneeeijjpiaaGreatDoor
open Go.RowKit
set_option maxRecDepth 100000 in
set_option maxHeartbeats 1000000 in
theorem bit_1 (p g x n : Nat) (w : World) (h : Bd w p g x n) (hn2 : n + 1 ≤ 60) (hx : x < 2 ^ n) : Calls Tryz.prog 77 #[.pointer (some ⟨p, 0, none⟩), .bool true] w fun e w' => e = .returned (.int .i64 0) ∧ ∃ g', Bd w' p g' (x + 1 * 2 ^ n) (n + 1) ∧ (n = 0 → w.heap.size ≤ g') ∧ (0 < n → g' = g) ∧ Oth w w' p g' := by
  go_enter Tryz.func77, Tryz.ntmps77
  go_wp2_with fail
  refine (put_any p g x n 1 1 _ h hn2 (by omega) (by omega) (by omega) hx).mono ?_; rintro e w1 ⟨rfl, g', a, b, c, d⟩
  go_wp2_with fail
  go_ret
  exact ⟨rfl, g', a, b, c, d⟩
set_option maxRecDepth 100000 in
set_option maxHeartbeats 1000000 in
theorem bit_0 (p g x n : Nat) (w : World) (h : Bd w p g x n) (hn2 : n + 1 ≤ 60) (hx : x < 2 ^ n) : Calls Tryz.prog 77 #[.pointer (some ⟨p, 0, none⟩), .bool false] w fun e w' => e = .returned (.int .i64 0) ∧ ∃ g', Bd w' p g' x (n + 1) ∧ (n = 0 → w.heap.size ≤ g') ∧ (0 < n → g' = g) ∧ Oth w w' p g' := by
  go_enter Tryz.func77, Tryz.ntmps77
  go_wp2_with fail
  refine (put_any p g x n 0 1 _ h hn2 (by omega) (by omega) (by omega) hx).mono ?_; rintro e w1 ⟨rfl, g', a, b, c, d⟩
  go_wp2_with fail
  go_ret
  exact ⟨rfl, g', by simpa using a, b, c, d⟩
set_option maxRecDepth 100000 in
theorem blen_any (p g x n : Nat) (w : World) (h : Bd w p g x n) : Calls Tryz.prog 79 #[.pointer (some ⟨p, 0, none⟩)] w fun e w' => e = .returned (.int .i64 (n : Nat)) ∧ w = w' := by
  have c1 := h.c1
  go_enter Tryz.func79, Tryz.ntmps79
  go_wp2
  go_ret
  exact ⟨rfl, rfl⟩
theorem info105 : (Tryz.prog.info? 105).map (fun i => (i.zero, i.size, i.bytes)) = some (some (.int .u64 0), 1, 8) := by kernel_rfl
def R0 (w : World) (b : Nat) : Prop := b < w.heap.size ∧ w.cell? ⟨b, 0, none⟩ = some (.slice none 0 0) ∧ w.cell? ⟨b, 1, none⟩ = some (.int .i64 0)
theorem R0.below {w w' : World} {b : Nat} (h : R0 w b) (hb : Below w.heap.size w w') : R0 w' b :=
  ⟨Nat.lt_of_lt_of_le h.1 hb.size, (hb.cell (p := ⟨b, 0, none⟩) h.1).trans h.2.1, (hb.cell (p := ⟨b, 1, none⟩) h.1).trans h.2.2⟩
set_option maxRecDepth 100000 in
set_option maxHeartbeats 1000000 in
theorem brow_0 (p g : Nat) (w : World) (h : Bd w p g 0 0) : Calls Tryz.prog 81 #[.pointer (some ⟨p, 0, none⟩)] w fun e w' => ∃ b, e = .returned (.pointer (some ⟨b, 0, none⟩)) ∧ w.heap.size ≤ b ∧ Below w.heap.size w w' ∧ R0 w' b := by
  obtain ⟨c0, -⟩ := h.none rfl
  have c1 := h.c1
  go_enter Tryz.func81, Tryz.ntmps81
  go_wp2_with fail
  go_region_law ((first | (go_simp; go_at_call 123; refine (Tryz.slices_Clone_nil 0 0 _).mono ?_; rintro e w1 ⟨rfl, rfl⟩)))
  all_goals
    go_wp2_with fail
    go_ret
    refine ⟨_, rfl, ?_, ?_, ?_, ?_, ?_⟩
    · exact Nat.le_refl _
    · exact ((Below.refl _ w).alloc (Nat.le_refl _) _).drew
    · simp
    · simp [go_sem]
    · simp [go_sem]
set_option maxRecDepth 100000 in
theorem clone_one (g cap x : Nat) (W : World) (hW : W.cell? ⟨g, 0, none⟩ = some (.int .u64 (x : Nat))) : Calls Tryz.prog 123 #[.slice (some ⟨g, 0, none⟩) 1 cap] W fun e w' => ∃ g2 cap2, e = .returned (.slice (some ⟨g2, 0, none⟩) 1 cap2) ∧ W.heap.size ≤ g2 ∧ g2 < w'.heap.size ∧ w'.cell? ⟨g2, 0, none⟩ = some (.int .u64 (x : Nat)) ∧ Below W.heap.size W w' := by
  obtain ⟨i0, hi0, hz0, hs0, hb0⟩ := info_parts info105
  refine (Tryz.slices_Clone i0 (.int .u64 0) 1 8 hi0 hz0 hs0 hb0 rfl (by omega) (fun _ => rfl) g 0 1 cap [.int .u64 (x : Nat)] W rfl (by unfold maxLen; omega) (by omega) (by intro j u hj; match j, hj with | 0, hj => simp at hj; simpa [← hj] using hW) (by intro u hu; simp at hu; subst hu; rfl)).mono ?_
  rintro e w1 ⟨v1, rfl, ho, hv, hb⟩
  obtain ⟨g2, cap2, rfl⟩ := ownsRow_succ (k := 0) ho
  have a1 := ho.lt g2 rfl
  have a2 := ho.cellAt 0 (by omega)
  simp at a2
  exact ⟨g2, cap2, rfl, a1.1, a1.2, a2, hb⟩
set_option maxRecDepth 100000 in
set_option maxHeartbeats 1000000 in
theorem brow_any (p g x n : Nat) (w : World) (h : Bd w p g x n) (hn : 0 < n) : Calls Tryz.prog 81 #[.pointer (some ⟨p, 0, none⟩)] w fun e w' => ∃ b, e = .returned (.pointer (some ⟨b, 0, none⟩)) ∧ w.heap.size ≤ b ∧ Below w.heap.size w w' ∧ Rw w' b x n := by
  obtain ⟨q1, q2, q3, q4, cap, q5⟩ := h.some hn
  have c1 := h.c1
  have hp := h.hp
  clear h
  go_enter Tryz.func81, Tryz.ntmps81
  go_wp2_with fail
  go_region_law ((first | (go_simp; go_at_call 123; refine (clone_one g cap x _ (by exact q3)).mono ?_; rintro e w1 ⟨g2, cap2, rfl, a1, a2, a3, hb⟩; have e1 : w1.cell? ⟨p, 1, none⟩ = some (.int .i64 (n : Nat)) := (hb.cell (p := ⟨p, 1, none⟩) hp).trans c1)))
  all_goals
    go_wp2_with fail
    go_ret
    have hs : w.heap.size ≤ w1.heap.size := hb.size
    refine ⟨_, rfl, hs, ((((Below.refl _ w).drew).trans hb).alloc hs _), g2, cap2, ?_, ?_, ?_, ?_, ?_⟩
    · simp [go_sem]
    · simp [go_sem]
    · simp [go_sem, a2, a3]
    · simp
    · simp; omega
end Go.Proofs.YtjelneeeijjpiaaGreatDoor
end
section
namespace Go.Proofs.YtjelneeeijjpiaaGreatDoor
open Go.RowKit
def Wd (n : Nat) : Nat := if n < 4 then 0 else Lib.bitLen (n / 2) - 1
theorem wd_key : ∀ n : Nat, n < 1024 → 3 ≤ n → Wd n < 9 ∧ 1 ≤ (n - 1) / 2 ^ Wd n ∧ (n - 1) / 2 ^ Wd n ≤ 3 := by decide +kernel
theorem wd_pos : ∀ n : Nat, n < 1024 → 4 ≤ n → 0 < Wd n ∧ 1 ≤ Lib.bitLen (n / 2) := by decide +kernel
theorem need_any (v : Nat) (hv : v < 18446744073709551616) (w : World) : Calls Tryz.prog 119 #[.int .u64 (v : Nat)] w fun e w' => e = .returned (.int .i64 (Lib.bitLen v : Nat)) ∧ w = w' := by
  go_enter Tryz.func119, Tryz.ntmps119
  go_wp2_with fail
  refine (Tryz.bits_Len64 (v : Int) _ (by omega) (by omega)).mono ?_; rintro e w1 ⟨rfl, rfl⟩
  go_wp2_with fail
  go_ret
  exact ⟨rfl, rfl⟩
set_option maxRecDepth 100000 in
set_option maxHeartbeats 1000000 in
theorem width_any (n : Nat) (hn : 3 ≤ n) (hn2 : n < 1024) (w : World) : Calls Tryz.prog 74 #[.int .i64 2, .int .i64 (n : Nat)] w fun e w' => e = .returned (.int .i64 (Wd n : Nat)) ∧ w = w' := by
  by_cases h4 : n < 4
  · have e : Wd n = 0 := by simp [Wd, h4]
    have k1 : (n : Int) < 4 := by omega
    rw [e]
    go_enter Tryz.func74, Tryz.ntmps74
    go_wp2
    go_ret
    exact ⟨rfl, rfl⟩
  · have e : Wd n = Lib.bitLen (n / 2) - 1 := by simp [Wd, h4]
    obtain ⟨hp, hb⟩ := wd_pos n hn2 (by omega)
    have k1 : ¬ (n : Int) < 4 := by omega
    have k2 : (n : Int).tdiv 2 = ((n / 2 : Nat) : Int) := by rw [Int.tdiv_eq_ediv_of_nonneg (by omega)]; omega
    have k3 : IntKind.u64.wrap ((n / 2 : Nat) : Int) = ((n / 2 : Nat) : Int) := by rw [IntKind.wrap_u64]; omega
    have k4 : IntKind.i64.wrap ((Lib.bitLen (n / 2) : Int) - 1) = (Wd n : Int) := by rw [e]; have := bitLen_le (n / 2) 9 (by omega) (by omega); rw [IntWalk.i64_in _ (by omega)]; omega
    have k5 : ((Lib.bitLen (n / 2) : Int) - 1) = (Wd n : Int) := by rw [e]; omega
    have hc := fun w => need_any (n / 2) (by omega) w
    have k6 : wrap64 ((n / 2 : Nat) : Int) = ((n / 2 : Nat) : Int) := by unfold wrap64; omega
    have k7 : IntKind.u64.wrap (wrap64 ((n / 2 : Nat) : Int)) = ((n / 2 : Nat) : Int) := by rw [k6, k3]
    have hc : ∀ (X : Int) (hX : Hid (X = ((n / 2 : Nat) : Int))) (w : World), Calls Tryz.prog 119 #[.int .u64 X] w fun e w' => e = .returned (.int .i64 (Lib.bitLen (n / 2) : Nat)) ∧ w = w' := fun X hX w => by rw [hX.out]; exact hc w
    have K7 := Lib.hid k7
    clear k3 k7 k6
    generalize n / 2 = q at *
    go_enter Tryz.func74, Tryz.ntmps74
    go_wp2_with (first | (go_at_call 119; refine (hc _ K7 _).mono ?_; rintro e w1 ⟨rfl, rfl⟩))
    go_ret
    have h64 : Lib.bitLen q ≤ 64 := aux_le 64 q
    exact ⟨ret_i64 (by clear k4; unfold wrap64; omega), rfl⟩
set_option maxRecDepth 100000 in
set_option maxHeartbeats 1000000 in
theorem highBits_any (n : Nat) (hn : 3 ≤ n) (hn2 : n < 1024) (w : World) : Calls Tryz.prog 78 #[.int .i64 2, .int .i64 (n : Nat), .int .i64 (Wd n : Nat)] w fun e w' => e = .returned (.int .i64 (3 + (n - 1) / 2 ^ Wd n : Nat)) ∧ w = w' := by
  obtain ⟨a1, a2, a3⟩ := wd_key n hn2 hn
  have k0 : IntKind.i64.wrap ((n : Int) - 1) = ((n - 1 : Nat) : Int) := by rw [IntWalk.i64_in _ (by omega)]; omega
  have k00 : ((n : Int) - 1) = ((n - 1 : Nat) : Int) := by omega
  have k1 : ((n - 1 : Nat) : Int) / 2 ^ (Wd n) = (((n - 1) / 2 ^ Wd n : Nat) : Int) := by simp
  generalize Wd n = d at *
  have k2 : ¬ (64 : Int) ≤ (d : Int) := by omega
  have k3 : ¬ (d : Int) < 0 := by omega
  generalize (n - 1) / 2 ^ d = q at *
  go_enter Tryz.func78, Tryz.ntmps78
  go_wp2
  go_ret
  exact ⟨ret_i64 (by omega), rfl⟩
theorem u64_and_nat (a k : Nat) (ha : a < 18446744073709551616) (hk : k ≤ 64) : bits .and .u64 (a : Int) ((2 ^ k - 1 : Nat) : Int) = ((a % 2 ^ k : Nat) : Int) := by
  have hb : 2 ^ k - 1 < 18446744073709551616 := Nat.lt_of_lt_of_le (Nat.sub_lt (Nat.pow_pos (by decide)) (by decide)) (Nat.pow_le_pow_right (by decide) hk : 2 ^ k ≤ 2 ^ 64)
  show IntKind.u64.wrap ((BitVec.ofInt 64 (a : Int) &&& BitVec.ofInt 64 ((2 ^ k - 1 : Nat) : Int)).toNat : Nat) = _
  rw [BitVec.toNat_and, ofInt_64 _ ha, ofInt_64 _ hb, Nat.and_two_pow_sub_one_eq_mod, IntKind.wrap_u64]
  have := Nat.mod_le a (2 ^ k)
  omega
set_option maxRecDepth 100000 in
theorem wfield_big (x a n : Nat) (hx : x < 18446744073709551616) (ha : a < 33) (hn : n < 33) (h1 : 1 ≤ n) (w : World) : Calls Tryz.prog 121 #[.int .u64 (x : Nat), .int .i64 (a : Nat), .int .i64 (n : Nat)] w fun e w' => e = .returned (.int .u64 (x / 2 ^ a % 2 ^ n : Nat)) ∧ ∃ m, w' = w.drewN m := by
  have k1 : ¬ (n : Int) < 1 := by omega
  have k2 : ¬ (64 : Int) ≤ (a : Int) := by omega
  have k3 : ¬ (a : Int) ≤ -64 := by omega
  have k4 : ¬ (a : Int) < 0 := by omega
  have k5 : ¬ (64 : Int) ≤ (n : Int) := by omega
  have k6 : (0 : Int) ≤ (n : Int) := by omega
  have k7 : (0 : Int) ≤ (a : Int) := by omega
  have k8 : (a : Int) < 64 := by omega
  have k9 : (n : Int) < 64 := by omega
  go_enter Tryz.func121, Tryz.ntmps121
  go_wp2
  go_quiet ((go_at_call 166; exact quiet_mine (mask_any n (by omega) _)))
  go_wp2
  go_ret
  refine ⟨ret_u64 ?_, _, rfl⟩
  rw [bits_nat]
  exact u64_and_nat _ n (Nat.lt_of_le_of_lt (Nat.div_le_self _ _) hx) (by omega)
end Go.Proofs.YtjelneeeijjpiaaGreatDoor
end
section
namespace Go.Proofs.YtjelneeeijjpiaaGreatDoor
open Go.RowKit
def UnrR (P : Program) (c : Code) (Q : Exit → Act → World → Prop) : Nat → Act → World → Prop
  | 0, _, _ => False
  | n + 1, a, w => ∀ K : Act → World → Prop, (∀ a w, UnrR P c Q n a w → K a w) → c.wp P (Exit.then K Q) a w
structure Unr (P : Program) (c : Code) (Q : Exit → Act → World → Prop) (n : Nat) (a : Act) (w : World) : Prop where
  run : UnrR P c Q n a w
theorem wp_loop_unr {P : Program} {c : Code} {Q : Exit → Act → World → Prop} {a : Act} {w : World} (n : Nat) (h : Unr P c Q n a w) : (Code.loop c).wp P Q a w := by
  refine wp_loop_ghost (fun n a w => UnrR P c Q n a w) n h.run ?_
  intro n a w hU
  cases n with
  | zero => exact hU.elim
  | succ n => exact hU _ (fun a w h => ⟨n, Nat.lt_succ_self n, h⟩)
theorem Unr.step {P : Program} {c : Code} {Q : Exit → Act → World → Prop} {a : Act} {w : World} {n : Nat} (h : ∀ K : Act → World → Prop, (∀ a w, Unr P c Q n a w → K a w) → c.wp P (Exit.then K Q) a w) : Unr P c Q (n + 1) a w := ⟨fun K hK => h K fun a w h => hK a w h.run⟩
def LabR (P : Program) (c : Code) (Q : Exit → Act → World → Prop) : Nat → Nat → Act → World → Prop
  | 0, _, _, _ => False
  | n + 1, l, a, w => ∃ rest, findLabel c l = some rest ∧ ∀ K : Nat → Act → World → Prop, (∀ l a w, LabR P c Q n l a w → K l a w) → rest.wp P (jumps K Q) a w
structure Lab (P : Program) (c : Code) (Q : Exit → Act → World → Prop) (n l : Nat) (a : Act) (w : World) : Prop where
  run : LabR P c Q n l a w
theorem Lab.step {P : Program} {c : Code} {Q : Exit → Act → World → Prop} {a : Act} {w : World} {n l : Nat} (rest : Code) (hf : findLabel c l = some rest) (h : ∀ K : Nat → Act → World → Prop, (∀ l a w, Lab P c Q n l a w → K l a w) → rest.wp P (jumps K Q) a w) : Lab P c Q (n + 1) l a w := ⟨rest, hf, fun K hK => h K fun l a w h => hK l a w h.run⟩
theorem wp_scope_lab {P : Program} {a : Act} {w : World} {Q : Exit → Act → World → Prop} {c : Code} (n : Nat) (h : ∀ K : Nat → Act → World → Prop, (∀ l a w, Lab P c Q n l a w → K l a w) → c.wp P (jumps K Q) a w) : (Code.scope c).wp P Q a w := by
  refine wp_scope_labels (fun m l a w => LabR P c Q m l a w) (n + 1) (h _ fun l a w hL => ⟨n, Nat.lt_succ_self n, hL.run⟩) ?_
  intro m l a w hL
  cases m with
  | zero => exact hL.elim
  | succ m =>
    obtain ⟨rest, hf, hr⟩ := hL
    exact ⟨rest, hf, hr _ fun l a w h => ⟨m, Nat.lt_succ_self m, h⟩⟩
end Go.Proofs.YtjelneeeijjpiaaGreatDoor
end
section
namespace Go.Proofs.YtjelneeeijjpiaaGreatDoor
open Go.RowKit
def Two (w : World) (g L : Nat) : Prop := g < w.heap.size ∧ w.cell? ⟨g, 0, none⟩ = some (.int .i64 0) ∧ w.cell? ⟨g, 1, none⟩ = some (.int .i64 (L : Nat))
theorem Two.below {w w' : World} {g L : Nat} (h : Two w g L) (hb : Below w.heap.size w w') : Two w' g L :=
  ⟨Nat.lt_of_lt_of_le h.1 hb.size, (hb.cell (p := ⟨g, 0, none⟩) h.1).trans h.2.1, (hb.cell (p := ⟨g, 1, none⟩) h.1).trans h.2.2⟩
theorem Bd.below {w w' : World} {p g x n : Nat} (h : Bd w p g x n) (hb : Below w.heap.size w w') : Bd w' p g x n :=
  ⟨Nat.lt_of_lt_of_le h.hp hb.size, (hb.cell (p := ⟨p, 1, Option.none⟩) h.hp).trans h.c1, (hb.frozen (p := ⟨p, 0, Option.none⟩) h.hp).trans h.f0, (hb.frozen (p := ⟨p, 1, Option.none⟩) h.hp).trans h.f1, fun h0 => ⟨(hb.cell (p := ⟨p, 0, Option.none⟩) h.hp).trans (h.none h0).1, (h.none h0).2⟩, fun h0 => by
    obtain ⟨a, b, c, d, cap, e⟩ := h.some h0
    exact ⟨a, Nat.lt_of_lt_of_le b hb.size, (hb.cell (p := ⟨g, 0, Option.none⟩) b).trans c, (hb.frozen (p := ⟨g, 0, Option.none⟩) b).trans d, cap, (hb.cell (p := ⟨p, 0, Option.none⟩) h.hp).trans e⟩⟩
theorem Bd.drewN {w : World} {p g x n : Nat} (h : Bd w p g x n) (m : Nat) : Bd (w.drewN m) p g x n := h.below (below_drewN (Below.refl _ _) m)
theorem Oth.of_below {w w1 w' : World} {p g : Nat} (hb : Below w.heap.size w w1) (hs : w1.heap.size = w.heap.size) (h : Oth w1 w' p g) : Oth w w' p g :=
  ⟨hs ▸ h.size, fun a h1 h2 h3 => (h.cell a (hs ▸ h1) h2 h3).trans (hb.cell h1), fun a h1 h2 h3 => (h.froz a (hs ▸ h1) h2 h3).trans (hb.frozen h1), fun B h1 h2 h3 => (hb.mono h3).trans (h.bel B h1 h2 (hs ▸ h3))⟩
theorem Oth.of_drewN {w w' : World} {p g m : Nat} (h : Oth (w.drewN m) w' p g) : Oth w w' p g := h.of_below (below_drewN (Below.refl _ _) m) rfl
set_option maxRecDepth 100000 in
set_option maxHeartbeats 1000000 in
theorem right_any (g cap L n : Nat) (hL : L + 1 = n) (hn : n < 1024) (h3 : 3 ≤ n) (w : World) (h : Two w g L) : Calls Tryz.prog 73 #[.slice (some ⟨g, 0, none⟩) 2 cap, .int .i64 (n : Nat)] w fun e w' => e = .returned (.bool true) ∧ ∃ m, w' = w.drewN m := by
  obtain ⟨h0, h1, h2⟩ := h
  have k1 : ¬ (n : Int) < 1 := by omega
  have k2 : ¬ (1099511627776 : Int) < (n : Int) := by omega
  have k3 : (0 : Int) < (n : Int) := by omega
  have k4 : (L : Int) < (n : Int) := by omega
  have k5 : (0 : Int) ≤ (L : Int) := by omega
  go_enter Tryz.func73, Tryz.ntmps73
  go_wp2_with (first | (refine wp_loop_unr 4 ?_; refine Unr.step ?_; intro U hU) | (refine Unr.step ?_; intro U hU))
  go_ret
  exact ⟨rfl, 0, rfl⟩
set_option maxRecDepth 100000 in
set_option maxHeartbeats 1000000 in
theorem nough_any (p g x n k : Nat) (w : World) (h : Bd w p g x n) (hn2 : n + k ≤ 60) (hk : k ≤ 16) (hk1 : 1 ≤ k) (hx : x < 2 ^ n) : Calls Tryz.prog 76 #[.pointer (some ⟨p, 0, none⟩), .int .i64 (k : Nat)] w fun e w' => e = .returned (.tuple #[]) ∧ ∃ g', Bd w' p g' x (n + k) ∧ (n = 0 → w.heap.size ≤ g') ∧ (0 < n → g' = g) ∧ Oth w w' p g' := by
  have hput := fun w h => put_any p g x n 0 k w h hn2 (Nat.pow_pos (by omega)) hk hk1 hx
  simp at hput
  have k0 : (0 : Int) < (k : Int) := by omega
  have k1 : min (k : Int) 64 = k := by omega
  have k2 : ¬ (0 : Int) < 0 := by omega
  have k3 : (k : Int) - k = 0 := by omega
  go_enter Tryz.func76, Tryz.ntmps76
  go_wp2_with (first | (refine wp_loop_unr 4 ?_; refine Unr.step ?_; intro U hU) | (refine Unr.step ?_; intro U hU) | (go_at_call 120; refine (hput _ h).mono ?_; rintro e w1 ⟨rfl, g', a, b, c, d⟩))
  refine bodyPost_end (v := .tuple #[]) (by simp [results, Tryz.results76, go_sem]) rfl ⟨rfl, g', a, b, c, d⟩
set_option maxRecDepth 100000 in
set_option maxHeartbeats 1000000 in
theorem nough_0 (p : Nat) (w : World) : Calls Tryz.prog 76 #[.pointer (some ⟨p, 0, none⟩), .int .i64 0] w fun e w' => e = .returned (.tuple #[]) ∧ w = w' := by
  go_enter Tryz.func76, Tryz.ntmps76
  go_wp2_with (first | (refine wp_loop_unr 4 ?_; refine Unr.step ?_; intro U hU) | (refine Unr.step ?_; intro U hU))
  refine bodyPost_end (v := .tuple #[]) (by simp [results, Tryz.results76, go_sem]) rfl ⟨rfl, rfl⟩
set_option maxRecDepth 100000 in
set_option maxHeartbeats 1000000 in
theorem number_0 (p : Nat) (v : Nat) (w : World) : Calls Tryz.prog 75 #[.pointer (some ⟨p, 0, none⟩), .int .i64 (v : Nat), .int .i64 0] w fun e w' => e = .returned (.tuple #[]) ∧ w = w' := by
  go_enter Tryz.func75, Tryz.ntmps75
  go_wp2_with fail
  refine bodyPost_end (v := .tuple #[]) (by simp [results, Tryz.results75, go_sem]) rfl ⟨rfl, rfl⟩
theorem wfield_low (v k : Nat) (hv : v < 18446744073709551616) (hk : k < 33) (hk1 : 1 ≤ k) (w : World) : Calls Tryz.prog 121 #[.int .u64 (v : Nat), .int .i64 0, .int .i64 (k : Nat)] w fun e w' => e = .returned (.int .u64 (v % 2 ^ k : Nat)) ∧ ∃ m, w' = w.drewN m := by
  have e : v / 2 ^ 0 % 2 ^ k = v % 2 ^ k := by simp
  have h := wfield_big v 0 k hv (by omega) hk hk1 w
  rw [e] at h
  exact h
set_option maxRecDepth 100000 in
set_option maxHeartbeats 1000000 in
theorem number_any (p g x n v k : Nat) (w : World) (h : Bd w p g x n) (hn2 : n + k ≤ 60) (hv : v < 1024) (hk : k ≤ 16) (hk1 : 1 ≤ k) (hx : x < 2 ^ n) : Calls Tryz.prog 75 #[.pointer (some ⟨p, 0, none⟩), .int .i64 (v : Nat), .int .i64 (k : Nat)] w fun e w' => e = .returned (.tuple #[]) ∧ ∃ g', Bd w' p g' (x + v % 2 ^ k * 2 ^ n) (n + k) ∧ (n = 0 → w.heap.size ≤ g') ∧ (0 < n → g' = g) ∧ Oth w w' p g' := by
  have hf := fun w => wfield_low v k (by omega) (by omega) hk1 w
  have hput := fun w h => put_any p g x n (v % 2 ^ k) k w h hn2 (Nat.mod_lt _ (Nat.pow_pos (by omega))) hk hk1 hx
  generalize v % 2 ^ k = r at *
  have k0 : (0 : Int) < (k : Int) := by omega
  have k1 : IntKind.u64.wrap (v : Int) = (v : Int) := by rw [IntKind.wrap_u64]; omega
  go_enter Tryz.func75, Tryz.ntmps75
  go_wp2_with (first | (go_at_call 121; refine (hf _).mono ?_; rintro e w1 ⟨rfl, m1, rfl⟩) | (go_at_call 120; refine (hput _ (h.drewN m1)).mono ?_; rintro e w2 ⟨rfl, g', a, b, c, d⟩))
  refine bodyPost_end (v := .tuple #[]) (by simp [results, Tryz.results75, go_sem]) rfl ⟨rfl, g', a, b, c, d.of_drewN⟩
end Go.Proofs.YtjelneeeijjpiaaGreatDoor
end
