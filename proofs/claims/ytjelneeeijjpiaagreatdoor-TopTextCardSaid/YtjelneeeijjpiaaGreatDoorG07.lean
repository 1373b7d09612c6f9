/- TopText: walks and plain laws, part 7: lemmas on what the functions that the law comes to compute. -/
import Derived.Test.YtjelneeeijjpiaaGreatDoorG06
import Derived.Deep.QuietTactic
import Derived.BigQuiet
import Derived.Deep.RegionHeld3
set_option linter.unusedVariables false
set_option linter.unusedSimpArgs false
section
namespace Go.Proofs.YtjelneeeijjpiaaGreatDoor
open Go.RowKit
def Rw (w : World) (b x n : Nat) : Prop := ∃ g cap : Nat, w.cell? ⟨b, 0, none⟩ = some (.slice (some ⟨g, 0, none⟩) 1 cap) ∧ w.cell? ⟨b, 1, none⟩ = some (.int .i64 (n : Nat)) ∧ w.cell? ⟨g, 0, none⟩ = some (.int .u64 (x : Nat)) ∧ b < w.heap.size ∧ g < w.heap.size
theorem quiet_mine {P : Program} {f : FuncId} {args : Array Value} {w : World} {n : Nat} {v : Value}
    (h : Calls P f args (w.drewN n) fun e w' => e = .returned v ∧ w.drewN n = w') : Calls P f args (w.drewN n) fun e w'' => e = .returned v ∧ ∃ m, w'' = w.drewN m :=
  h.mono fun _ _ ⟨he, hm⟩ => ⟨he, n, hm.symm⟩
theorem ret_bool {a b : Bool} (h : a = b) : Ending.returned (.bool a) = .returned (.bool b) := by rw [h]
theorem Rw.below {w w' : World} {b x n : Nat} (h : Rw w b x n) (hb : Below w.heap.size w w') : Rw w' b x n := by
  obtain ⟨g, cap, h1, h2, h3, h4, h5⟩ := h
  exact ⟨g, cap, by rw [hb.cell (p := ⟨b, 0, none⟩) h4]; exact h1, by rw [hb.cell (p := ⟨b, 1, none⟩) h4]; exact h2, by rw [hb.cell (p := ⟨g, 0, none⟩) h5]; exact h3, Nat.lt_of_lt_of_le h4 hb.size, Nat.lt_of_lt_of_le h5 hb.size⟩
set_option maxRecDepth 100000 in
theorem rlen_any (b x n : Nat) (w : World) (h : Rw w b x n) : Calls Tryz.prog 122 #[.pointer (some ⟨b, 0, none⟩)] w fun e w' => e = .returned (.int .i64 (n : Nat)) ∧ w = w' := by
  obtain ⟨g, cap, h1, h2, h3, h4, h5⟩ := h
  go_enter Tryz.func122, Tryz.ntmps122
  go_wp2
  go_ret
  exact ⟨rfl, rfl⟩
set_option maxRecDepth 100000 in
theorem word0_any (b x n : Nat) (w : World) (h : Rw w b x n) : Calls Tryz.prog 127 #[.pointer (some ⟨b, 0, none⟩), .int .i64 0] w fun e w' => e = .returned (.int .u64 (x : Nat)) ∧ w = w' := by
  obtain ⟨g, cap, h1, h2, h3, h4, h5⟩ := h
  go_enter Tryz.func127, Tryz.ntmps127
  go_wp2
  go_ret
  exact ⟨rfl, rfl⟩
set_option maxRecDepth 100000 in
theorem word1_any (b x n k : Nat) (w : World) (h : Rw w b x n) (hk : 1 ≤ k) : Calls Tryz.prog 127 #[.pointer (some ⟨b, 0, none⟩), .int .i64 (k : Nat)] w fun e w' => e = .returned (.int .u64 0) ∧ w = w' := by
  obtain ⟨g, cap, h1, h2, h3, h4, h5⟩ := h
  have hk0 : ¬ (k : Int) < 0 := by omega
  have hk1 : (1 : Int) ≤ (k : Int) := by omega
  go_enter Tryz.func127, Tryz.ntmps127
  go_wp2
  go_ret
  exact ⟨rfl, rfl⟩
set_option maxRecDepth 100000 in
theorem get_any (b x n i : Nat) (w : World) (h : Rw w b x n) (hx : x < 256) (hi : i < n) (hn : n < 9) : Calls Tryz.prog 135 #[.pointer (some ⟨b, 0, none⟩), .int .i64 (i : Nat)] w fun e w' => e = .returned (.bool (x / 2 ^ i % 2 == 1)) ∧ w = w' := by
  obtain ⟨g, cap, h1, h2, h3, h4, h5⟩ := h
  have hi0 : (0 : Int) ≤ (i : Int) := by omega
  have hi1 : (i : Int) < (n : Int) := by omega
  have hi2 : (i : Int) < 64 := by omega
  have hd : (i : Int).tdiv 64 = 0 := by rw [Int.tdiv_eq_ediv_of_nonneg (by omega)]; omega
  have hm : (i : Int).tmod 64 = i := by rw [Int.tmod_eq_emod_of_nonneg (by omega)]; omega
  obtain ⟨v, hv⟩ : ∃ v, x / 2 ^ i = v := ⟨_, rfl⟩
  have hv2 : v < 256 := by rw [← hv]; exact Nat.lt_of_le_of_lt (Nat.div_le_self _ _) hx
  have hb := bit_key' v hv2
  rw [hv]
  go_enter Tryz.func135, Tryz.ntmps135
  go_wp2
  go_ret
  refine ⟨ret_bool ?_, rfl⟩
  have e : (x : Int) / 2 ^ i = (v : Int) := by rw [← hv]; simp
  rw [e, hb]
  have : v % 2 = 0 ∨ v % 2 = 1 := by omega
  rcases this with h | h <;> rw [h] <;> rfl
theorem field_key : ∀ x : Nat, x < 256 → ∀ a : Nat, a < 9 → ∀ n : Nat, n < 9 → bits .and .u64 (((x : Int) / 2 ^ a)) ((2 ^ n - 1 : Nat) : Int) = ((x / 2 ^ a % 2 ^ n : Nat) : Int) := by decide +kernel
theorem bits_nat (x a : Nat) : ((x : Int) / 2 ^ a) = ((x / 2 ^ a : Nat) : Int) := by simp
set_option maxRecDepth 100000 in
theorem wfield_any (x a n : Nat) (hx : x < 256) (ha : a < 9) (hn : n < 9) (h1 : 1 ≤ n) (w : World) : Calls Tryz.prog 121 #[.int .u64 (x : Nat), .int .i64 (a : Nat), .int .i64 (n : Nat)] w fun e w' => e = .returned (.int .u64 (x / 2 ^ a % 2 ^ n : Nat)) ∧ ∃ m, w' = w.drewN m := by
  have k1 : ¬ (n : Int) < 1 := by omega
  have k2 : ¬ (64 : Int) ≤ (a : Int) := by omega
  have k3 : ¬ (a : Int) ≤ -64 := by omega
  have k4 : ¬ (a : Int) < 0 := by omega
  have k5 : ¬ (64 : Int) ≤ (n : Int) := by omega
  have k6 : (0 : Int) ≤ (n : Int) := by omega
  have k7 : (0 : Int) ≤ (a : Int) := by omega
  have k8 : (a : Int) < 64 := by omega
  go_enter Tryz.func121, Tryz.ntmps121
  go_wp2
  go_quiet ((go_at_call 166; exact quiet_mine (mask_any n (by omega) _)))
  go_wp2
  go_ret
  refine ⟨ret_u64 ?_, _, rfl⟩
  exact field_key x hx a ha n hn
theorem Rw.drewN {w : World} {b x n : Nat} (h : Rw w b x n) (m : Nat) : Rw (w.drewN m) b x n := by
  obtain ⟨g, cap, h1, h2, h3, h4, h5⟩ := h
  exact ⟨g, cap, by simpa using h1, by simpa using h2, by simpa using h3, h4, h5⟩
theorem tup_ii {a b c d : Int} (h : a = c) (k : b = d) : Ending.returned (.tuple #[.int .i64 a, .int .i64 b]) = .returned (.tuple #[.int .i64 c, .int .i64 d]) := by rw [h, k]
set_option maxRecDepth 100000 in
theorem rfield_any (b x n a m : Nat) (w : World) (h : Rw w b x n) (hx : x < 256) (hn : n < 9) (hm : 1 ≤ m) (ham : a + m ≤ n) : Calls Tryz.prog 173 #[.pointer (some ⟨b, 0, none⟩), .int .i64 (a : Nat), .int .i64 (m : Nat)] w fun e w' => e = .returned (.tuple #[.int .u64 (x / 2 ^ a % 2 ^ m : Nat), .int .i64 0]) ∧ ∃ m, w' = w.drewN m := by
  obtain ⟨g, cap, h1, h2, h3, h4, h5⟩ := h
  have k1 : ¬ (m : Int) < 0 := by omega
  have k2 : ¬ (64 : Int) < (m : Int) := by omega
  have k3 : ¬ (a : Int) < 0 := by omega
  have k4 : ¬ (n : Int) - (m : Int) < (a : Int) := by omega
  have k5 : ((m : Int) == 0) = false := by rw [beq_eq_false_iff_ne]; omega
  have hd : (a : Int).tdiv 64 = 0 := by rw [Int.tdiv_eq_ediv_of_nonneg (by omega)]; omega
  have hmm : (a : Int).tmod 64 = a := by rw [Int.tmod_eq_emod_of_nonneg (by omega)]; omega
  have k6 : ¬ (64 : Int) < (a : Int) + (m : Int) := by omega
  obtain ⟨v, hv⟩ : ∃ v, x / 2 ^ a % 2 ^ m = v := ⟨_, rfl⟩
  have hc := fun w => wfield_any x a m hx (by omega) (by omega) hm w
  rw [hv] at hc ⊢
  go_enter Tryz.func173, Tryz.ntmps173
  go_wp2_with (first | (go_at_call 121; refine (hc _).mono ?_; rintro e w1 ⟨rfl, m1, rfl⟩) | go_in)
  go_ret2
  exact ⟨rfl, _, rfl⟩
set_option maxRecDepth 100000 in
theorem ends_any (b x n a t : Nat) (w : World) (h : Rw w b x n) (ha : a ≤ n) (hat : a ≤ t) (ht : t ≤ 1000) (hn : n < 9) : Calls Tryz.prog 221 #[.pointer (some ⟨b, 0, none⟩), .int .i64 (a : Nat), .int .i64 (t : Nat)] w fun e w' => e = .returned (.tuple #[.int .i64 (a : Nat), .int .i64 (min t n : Nat)]) ∧ ∃ m, w' = w.drewN m := by
  obtain ⟨g, cap, h1, h2, h3, h4, h5⟩ := h
  have k1 : max (a : Int) 0 = a := by omega
  have k2 : min (a : Int) n = a := by omega
  have k3 : max (t : Int) a = t := by omega
  obtain ⟨v, hv⟩ : ∃ v, min t n = v := ⟨_, rfl⟩
  have k4 : min (t : Int) n = v := by omega
  rw [hv]
  go_enter Tryz.func221, Tryz.ntmps221
  go_wp2
  all_goals
    go_ret2
    exact ⟨tup_ii (by omega) (by omega), 0, rfl⟩
end Go.Proofs.YtjelneeeijjpiaaGreatDoor
end
section
namespace Go.Proofs.YtjelneeeijjpiaaGreatDoor
open Go.RowKit
set_option maxRecDepth 100000 in
theorem piece_any (b x n a t v m : Nat) (w : World) (h : Rw w b x n) (hx : x < 256) (hn : n < 9) (hm : a + m = t) (hm1 : 1 ≤ m) (ht : t ≤ n) (hv : x / 2 ^ a % 2 ^ m = v) : Calls Tryz.prog 222 #[.pointer (some ⟨b, 0, none⟩), .int .i64 (a : Nat), .int .i64 (t : Nat)] w fun e w' => e = .returned (.tuple #[.int .u64 (v : Nat), .int .i64 (m : Nat)]) ∧ ∃ m, w' = w.drewN m := by
  have k1 : (t : Int) - (a : Int) = m := by omega
  have k2 : min (64 : Int) m = m := by omega
  have hc := fun w h => rfield_any b x n a m w h hx hn hm1 (by omega)
  rw [hv] at hc
  go_enter Tryz.func222, Tryz.ntmps222
  go_wp2_with (first | (go_at_call 173; refine (hc _ h).mono ?_; rintro e w1 ⟨rfl, m1, rfl⟩) | go_in)
  all_goals first
    | (exfalso; omega)
    | (go_ret2; exact ⟨rfl, _, rfl⟩)
set_option maxRecDepth 100000 in
set_option maxHeartbeats 1000000 in
theorem pexcess_any (b x n a t u v m : Nat) (w : World) (h : Rw w b x n) (hx : x < 256) (hn : n < 9) (hu : min t n = u) (hat : a ≤ t) (ht : t ≤ 1000) (hm : a + m = u) (hm1 : 1 ≤ m) (hv : x / 2 ^ a % 2 ^ m = v) (hv2 : v < 256) : Calls Tryz.prog 168 #[.pointer (some ⟨b, 0, none⟩), .int .i64 (a : Nat), .int .i64 (t : Nat)] w fun e w' => e = .returned (.int .i64 (exc v m)) ∧ ∃ m, w' = w.drewN m := by
  have hends := fun w h => ends_any b x n a t w h (by omega) hat ht hn
  rw [hu] at hends
  have hb := exc_bd v m
  have k1 : (a : Int) + m = u := by omega
  have k2 : decide ((a : Int) < (u : Int)) = true := by rw [decide_eq_true_eq]; omega
  have k3 : decide ((u : Int) < (u : Int)) = false := by rw [decide_eq_false_iff_not]; omega
  go_enter Tryz.func168, Tryz.ntmps168
  go_wp2_with fail
  refine (hends _ h).mono ?_; rintro e w1 ⟨rfl, m1, rfl⟩
  go_wp2_with fail
  go_loopg [1, 7] 1 (fun g f e wr => ((g = 1 ∧ f = .int .i64 (a : Nat) ∧ e = .int .i64 0) ∨ (g = 0 ∧ f = .int .i64 (u : Nat) ∧ e = .int .i64 (exc v m))) ∧ ∃ m, wr = w.drewN m)
  case atStart => exact ⟨.inl ⟨rfl, rfl, rfl⟩, _, rfl⟩
  case round =>
    obtain ⟨⟨rfl, rfl, rfl⟩ | ⟨rfl, rfl, rfl⟩, m2, rfl⟩ := hrel
    · go_wp2_with fail
      refine (piece_any b x n a u v m _ (h.drewN _) hx hn hm hm1 (by omega) hv).mono ?_; rintro e w1 ⟨rfl, m3, rfl⟩
      go_wp2_with fail
      refine (excess_any v m hv2 (by omega) _).mono ?_; rintro e w1 ⟨rfl, rfl⟩
      go_wp2_with fail
      go_roundg 0
      case measure => go_light; omega
      case rel => go_light; exact ⟨.inr ⟨rfl, by go_num, by go_num⟩, _, rfl⟩
    · go_wp2_with fail
      go_ret
      exact ⟨rfl, _, rfl⟩
set_option maxRecDepth 100000 in
set_option maxHeartbeats 1000000 in
theorem preach_any (b n t : Nat) (w : World) (h : Rw w b 3 4) (ht : t ≤ 4) (ht1 : 1 ≤ t) : Calls Tryz.prog 169 #[.pointer (some ⟨b, 0, none⟩), .int .i64 0, .int .i64 (t : Nat)] w fun e w' => e = .returned (.complex .f64 (floatOfInt .f64 (rmin (3 % 2 ^ t) t)) (floatOfInt .f64 (rmax (3 % 2 ^ t) t))) ∧ ∃ m, w' = w.drewN m := by
  obtain ⟨v, hv⟩ : ∃ v, 3 % 2 ^ t = v := ⟨_, rfl⟩
  have hv2 : v < 256 := by rw [← hv]; exact Nat.lt_of_le_of_lt (Nat.mod_le _ _) (by decide)
  have hends := fun w h => ends_any b 3 4 0 t w h (by omega) (by omega) (by omega) (by omega)
  have hu : min t 4 = t := by omega
  rw [hu] at hends
  have hp := fun w h => piece_any b 3 4 0 t v t w h (by omega) (by omega) (by omega) ht1 ht (by simpa using hv)
  have hb := exc_bd v t
  have k1 : ((0 : Int) == (t : Int)) = false := by rw [beq_eq_false_iff_ne]; omega
  have k3 : decide ((t : Int) < (t : Int)) = false := by rw [decide_eq_false_iff_not]; omega
  rw [hv]
  go_enter Tryz.func169, Tryz.ntmps169
  go_wp2_with fail
  refine (hends _ h).mono ?_; rintro e w1 ⟨rfl, m1, rfl⟩
  go_wp2_with fail
  refine (hp _ (h.drewN _)).mono ?_; rintro e w1 ⟨rfl, m3, rfl⟩
  go_wp2_with fail
  refine (reach_any v t hv2 (by omega) (by omega) _).mono ?_; rintro e w1 ⟨rfl, rfl⟩
  go_wp2_with fail
  refine (excess_any v t hv2 (by omega) _).mono ?_; rintro e w1 ⟨rfl, rfl⟩
  go_wp2_with fail
  go_loopg [1, 9] 1 (fun g f o wr => f = .int .i64 (t : Nat) ∧ o = .complex .f64 (floatOfInt .f64 (rmin v t)) (floatOfInt .f64 (rmax v t)) ∧ ∃ m, wr = w.drewN m)
  case atStart => exact ⟨rfl, rfl, _, rfl⟩
  case round =>
    obtain ⟨rfl, rfl, m2, rfl⟩ := hrel
    go_wp2_with fail
    go_ret
    exact ⟨rfl, _, rfl⟩
set_option maxRecDepth 100000 in
set_option maxHeartbeats 1000000 in
theorem find_any (x n : Nat) (d : Int) (hx : x < 256) (hn : n < 9) (hd : -100 ≤ d ∧ d ≤ 100) (w : World) (r : Nat) (hr1 : 1 ≤ r) (hr : r ≤ n) (he : exc x r = d) (hne : ∀ k, 1 ≤ k → k < r → exc x k ≠ d) :
    Calls Tryz.prog 371 #[.int .u64 (x : Nat), .int .i64 (n : Nat), .int .i64 d] w fun e w' => e = .returned (.int .i64 (r : Nat)) ∧ w = w' := by
  have HE : Hid (exc x r = d) := Lib.hid he
  have HN : Hid (∀ k, 1 ≤ k → k < r → exc x k ≠ d) := Lib.hid hne
  clear he hne
  go_enter Tryz.func371, Tryz.ntmps371
  go_wp2
  refine wp_scope_pass (fun m l a w' => l = 0 ∧ w = w' ∧ ∃ k : Nat, m = n - k ∧ k < r ∧ (∃ u3 u4 u5 u6 u9 u10 u11 u12 u13 u14 u15 u16 u17 u18 u19 u20 u21 u22 u23 u24 u25 u26 u27 u28 : Value, a = { tmps := #[.int .u64 (x : Nat), .int .i64 (n : Nat), .int .i64 d, u3, u4, u5, u6, .int .i64 (k : Nat), .int .i64 (exc x k), u9, u10, u11, u12, u13, u14, u15, u16, u17, u18, u19, u20, u21, u22, u23, u24, u25, u26, u27, u28], defers := [] })) (n + 1) ?_ ?_
  · rintro m l a w' ⟨rfl, rfl, k, rfl, hk, hJ⟩
    obtain ⟨u3, u4, u5, u6, u9, u10, u11, u12, u13, u14, u15, u16, u17, u18, u19, u20, u21, u22, u23, u24, u25, u26, u27, u28, rfl⟩ := hJ
    refine ⟨_, rfl, ?_⟩
    have hkn : ((k : Int) == (n : Int)) = false := by rw [beq_eq_false_iff_ne]; omega
    obtain ⟨v, hv⟩ : ∃ v, x / 2 ^ k = v := ⟨_, rfl⟩
    have hv2 : v < 256 := by rw [← hv]; exact Nat.lt_of_le_of_lt (Nat.div_le_self _ _) hx
    have hvi : (x : Int) / 2 ^ k = (v : Int) := by rw [← hv]; simp
    obtain ⟨b, hbb⟩ : ∃ b, v % 2 = b := ⟨_, rfl⟩
    have hb := bit_key' v hv2
    rw [hbb] at hb
    have hb2 : b < 2 := by omega
    have e1 := exc_bd x k
    have HX : Hid (exc x (k + 1) = exc x k + ((b : Int) * 2 - 1)) := Lib.hid (by rw [exc, hv, hbb])
    clear hv hbb
    by_cases hlast : k + 1 = r
    · have hde : (exc x k + ((b : Int) * 2 - 1) != d) = false := by rw [bne_eq_false_iff_eq, ← HX.out, hlast]; exact HE.out
      go_wp2_with fail
      rw [jumps_ret]
      go_ret
      exact ⟨ret_i64 (by omega), rfl⟩
    · have hde : (exc x k + ((b : Int) * 2 - 1) != d) = true := by rw [bne_iff_ne, ← HX.out]; exact HN.out (k + 1) (by omega) (by omega)
      go_wp2_with fail
      go_step3
      rw [← HX.out]
      exact ⟨n - (k + 1), by omega, rfl, rfl, k + 1, rfl, by omega, _, _, _, _, _, _, _, _, _, _, _, _, _, _, _, _, _, _, _, _, _, _, _, _, rfl⟩
  · intro hin
    go_wp2_with fail
    refine (first_any n (by omega) _).mono ?_; rintro e w1 ⟨rfl, rfl⟩
    go_wp2_with fail
    go_step3
    rename_i hK
    exact hK _ _ <| hin n 0 _ _ _ (by omega) rfl ⟨rfl, rfl, 0, rfl, by omega, _, _, _, _, _, _, _, _, _, _, _, _, _, _, _, _, _, _, _, _, _, _, _, _, rfl⟩
end Go.Proofs.YtjelneeeijjpiaaGreatDoor
end
section
namespace Go.Proofs.YtjelneeeijjpiaaGreatDoor
open Go.RowKit
set_option maxRecDepth 100000 in
set_option maxHeartbeats 1000000 in
theorem pforth_any (b : Nat) (w : World) (h : Rw w b 3 4) : Calls Tryz.prog 360 #[.pointer (some ⟨b, 0, none⟩), .int .i64 1, .int .i64 512, .int .i64 0] w fun e w' => e = .returned (.int .i64 2) ∧ ∃ m, w' = w.drewN m := by
  have hends := fun w h => ends_any b 3 4 1 512 w h (by omega) (by omega) (by omega) (by omega)
  have hp := fun w h => piece_any b 3 4 1 4 1 3 w h (by omega) (by omega) (by omega) (by omega) (by omega) (by decide)
  have hne1 : ∀ k, 1 ≤ k → k < 2 → exc 1 k ≠ 0 := by
    intro k h1 h2
    obtain rfl : k = 1 := by omega
    decide
  have hf := fun w => find_any 1 3 0 (by omega) (by omega) (by omega) w 2 (by omega) (by omega) (by decide) hne1
  go_enter Tryz.func360, Tryz.ntmps360
  go_wp2
  go_step3
  go_wp2_with fail
  refine (hends _ h).mono ?_; rintro e w1 ⟨rfl, m1, rfl⟩
  go_wp2_with fail
  go_step3
  go_wp2_with fail
  refine (hp _ (h.drewN _)).mono ?_; rintro e w1 ⟨rfl, m2, rfl⟩
  go_wp2_with (first | (go_at_call 371; refine (hf _).mono ?_; rintro e w1 ⟨rfl, rfl⟩) | (go_at_call 370; go_in))
  rw [Exit.noGoto_ret]
  go_ret
  exact ⟨rfl, _, rfl⟩
set_option maxRecDepth 100000 in
theorem reverse_1 (w : World) : Calls Tryz.prog 378 #[.int .u64 1] w fun e w' => e = .returned (.int .u64 9223372036854775808) ∧ w = w' := by
  go_enter Tryz.func378, Tryz.ntmps378
  go_wp2
  go_ret
  exact ⟨ret_u64 (by decide +kernel), rfl⟩
set_option maxRecDepth 100000 in
theorem field_top (w : World) : Calls Tryz.prog 121 #[.int .u64 9223372036854775808, .int .i64 63, .int .i64 1] w fun e w' => e = .returned (.int .u64 1) ∧ ∃ m, w' = w.drewN m := by
  go_enter Tryz.func121, Tryz.ntmps121
  go_wp2
  go_quiet ((go_at_call 166; exact quiet_mine (mask_any 1 (by omega) _)))
  go_wp2
  go_ret
  exact ⟨ret_u64 (by decide +kernel), _, rfl⟩
set_option maxRecDepth 100000 in
theorem turned_any (w : World) : Calls Tryz.prog 372 #[.int .u64 1, .int .i64 1] w fun e w' => e = .returned (.int .u64 1) ∧ ∃ m, w' = w.drewN m := by
  go_enter Tryz.func372, Tryz.ntmps372
  go_wp2_with fail
  refine (reverse_1 _).mono ?_; rintro e w1 ⟨rfl, rfl⟩
  go_wp2_with fail
  refine (field_top _).mono ?_; rintro e w1 ⟨rfl, m1, rfl⟩
  go_wp2_with fail
  go_ret
  exact ⟨rfl, _, rfl⟩
set_option maxRecDepth 100000 in
set_option maxHeartbeats 1000000 in
theorem pback_any (b : Nat) (w : World) (h : Rw w b 3 4) : Calls Tryz.prog 363 #[.pointer (some ⟨b, 0, none⟩), .int .i64 0, .int .i64 1, .int .i64 1] w fun e w' => e = .returned (.int .i64 0) ∧ ∃ m, w' = w.drewN m := by
  have hends := fun w h => ends_any b 3 4 0 1 w h (by omega) (by omega) (by omega) (by omega)
  have hp := fun w h => rfield_any b 3 4 0 1 w h (by omega) (by omega) (by omega) (by omega)
  have hf := fun w => find_any 1 1 1 (by omega) (by omega) (by omega) w 1 (by omega) (by omega) (by decide) (fun k h1 h2 => by omega)
  go_enter Tryz.func363, Tryz.ntmps363
  go_wp2
  go_step3
  go_wp2_with fail
  refine (hends _ h).mono ?_; rintro e w1 ⟨rfl, m1, rfl⟩
  go_wp2_with fail
  go_step3
  go_wp2_with fail
  refine (hp _ (h.drewN _)).mono ?_; rintro e w1 ⟨rfl, m2, rfl⟩
  go_wp2_with (first | (go_at_call 371; refine (hf _).mono ?_; rintro e w1 ⟨rfl, rfl⟩) | (go_at_call 370; go_in) | (go_at_call 372; refine (turned_any _).mono ?_; rintro e w1 ⟨rfl, m3, rfl⟩))
  rw [Exit.noGoto_ret]
  go_ret
  exact ⟨rfl, _, rfl⟩
theorem run_store_complex {P : Program} {w : World} {a : Addr} {m : Mode} (k : FloatKind) (x y : Nat) : (store a (.complex k x y) m).run P w = stored P w a (.complex k x y) m := run_store P w a _ m rfl
attribute [local go_sem] run_store_complex
theorem below_drewN {B : Nat} {w w' : World} (h : Below B w w') (n : Nat) : Below B w (w'.drewN n) := ⟨h.os, h.tape, h.output, h.size, h.block⟩
theorem Rw.alloc {w : World} {b x n : Nat} (h : Rw w b x n) (o : Obj) : Rw (w.alloc o) b x n := h.below ((Below.refl _ w).alloc (Nat.le_refl _) o)
theorem fl0 : floatOfInt .f64 0 = 0 := by decide +kernel
theorem fl2 : floatOfInt .f64 2 = 4611686018427387904 := by decide +kernel
theorem fl1 : floatOfInt .f64 1 = 4607182418800017408 := by decide +kernel
theorem preach4 (b : Nat) (w : World) (h : Rw w b 3 4) : Calls Tryz.prog 169 #[.pointer (some ⟨b, 0, none⟩), .int .i64 0, .int .i64 4] w fun e w' => e = .returned (.complex .f64 0 4611686018427387904) ∧ ∃ m, w' = w.drewN m := by
  have := preach_any b 4 4 w h (by omega) (by omega)
  rw [show rmin (3 % 2 ^ 4) 4 = 0 by decide, show rmax (3 % 2 ^ 4) 4 = 2 by decide, fl0, fl2] at this
  exact this
theorem preach3 (b : Nat) (w : World) (h : Rw w b 3 4) : Calls Tryz.prog 169 #[.pointer (some ⟨b, 0, none⟩), .int .i64 0, .int .i64 3] w fun e w' => e = .returned (.complex .f64 4607182418800017408 4611686018427387904) ∧ ∃ m, w' = w.drewN m := by
  have := preach_any b 4 3 w h (by omega) (by omega)
  rw [show rmin (3 % 2 ^ 3) 3 = 1 by decide, show rmax (3 % 2 ^ 3) 3 = 2 by decide, fl1, fl2] at this
  exact this
theorem pexcess4 (b : Nat) (w : World) (h : Rw w b 3 4) : Calls Tryz.prog 168 #[.pointer (some ⟨b, 0, none⟩), .int .i64 0, .int .i64 4] w fun e w' => e = .returned (.int .i64 0) ∧ ∃ m, w' = w.drewN m :=
  pexcess_any b 3 4 0 4 4 3 4 w h (by omega) (by omega) (by omega) (by omega) (by omega) (by omega) (by omega) (by decide) (by omega)
theorem min_1 (w : World) : (Builtin.min_ #[226, 226] 226 #[.float .f64 0, .float .f64 4607182418800017408]).run Tryz.prog w = .ok (.float .f64 0) w := by
  have h : FloatKind.f64.format.order 0 4607182418800017408 = some .lt := by decide +kernel
  simp [Builtin.min_, Builtin.min2, h]
theorem max_1 (w : World) : (Builtin.max_ #[226, 226] 226 #[.float .f64 0, .float .f64 4611686018427387904]).run Tryz.prog w = .ok (.float .f64 4611686018427387904) w := by
  have h : FloatKind.f64.format.order 0 4611686018427387904 = some .lt := by decide +kernel
  simp [Builtin.max_, Builtin.max2, h]
set_option maxRecDepth 100000 in
theorem both_1 (w : World) : Calls Tryz.prog 170 #[.complex .f64 0 0, .complex .f64 4607182418800017408 4611686018427387904] w fun e w' => e = .returned (.complex .f64 0 4611686018427387904) ∧ w = w' := by
  have hm := min_1
  have hM := max_1
  go_enter Tryz.func170, Tryz.ntmps170
  go_wp2
  go_ret
  exact ⟨rfl, rfl⟩
set_option maxRecDepth 100000 in
set_option maxHeartbeats 1000000 in
theorem leaf_any (b : Nat) (w : World) (h : Rw w b 3 4) : Calls Tryz.prog 124 #[.pointer (some ⟨b, 0, none⟩), .int .i64 0] w fun e w' => e = .returned (.agg #[.int .i64 0, .complex .f64 0 4611686018427387904, .complex .f64 0 4611686018427387904]) ∧ Below w.heap.size w w' := by
  go_enter Tryz.func124, Tryz.ntmps124
  go_wp2_with fail
  refine (rlen_any b 3 4 _ (h.alloc _)).mono ?_; rintro e w1 ⟨rfl, rfl⟩
  go_wp2_with fail
  refine (pexcess4 b _ (h.alloc _)).mono ?_; rintro e w1 ⟨rfl, m1, rfl⟩
  go_wp2_with fail
  refine (preach4 b _ ((h.alloc _).drewN _)).mono ?_; rintro e w1 ⟨rfl, m2, rfl⟩
  go_wp2_with fail
  refine (preach3 b _ (h.below ((below_drewN ((Below.refl _ w).alloc (Nat.le_refl _) _) _).alloc (by simp) _))).mono ?_; rintro e w1 ⟨rfl, m3, rfl⟩
  go_wp2_with fail
  refine (both_1 _).mono ?_; rintro e w1 ⟨rfl, rfl⟩
  go_wp2_with fail
  exact bodyPost_ret (v := .agg #[.int .i64 0, .complex .f64 0 4611686018427387904, .complex .f64 0 4611686018427387904]) (by simp [results, Tryz.results124, go_sem]) rfl ⟨rfl, ((((below_drewN ((below_drewN ((Below.refl _ w).alloc (Nat.le_refl _) _) _).alloc (by simp) _) _).setCell (by simp) _).setCell (by simp) _).setCell (by simp) _).setCell (by simp) _⟩
end Go.Proofs.YtjelneeeijjpiaaGreatDoor
end
section
namespace Go.Proofs.YtjelneeeijjpiaaGreatDoor
open Go.RowKit
attribute [local go_sem] run_store_complex
theorem info223 : (Tryz.prog.info? 223).map (fun i => (i.zero, i.size, i.bytes)) = some (some (.agg #[.int .i64 0, .complex .f64 0 0, .complex .f64 0 0]), 3, 40) := by kernel_rfl
theorem info_parts {P : Program} {e : TypeId} {z : Option Value} {s b : Nat} (h : (P.info? e).map (fun i => (i.zero, i.size, i.bytes)) = some (z, s, b)) : ∃ i, P.info? e = some i ∧ i.zero = z ∧ i.size = s ∧ i.bytes = b := by
  cases hi : P.info? e with
  | none => rw [hi] at h; simp at h
  | some i => rw [hi] at h; simp at h; exact ⟨i, rfl, h.1, h.2.1, h.2.2⟩
theorem make_nodes (W : World) : (Instr.makeSlice 218 (.int .i64 2) (.int .i64 2)).run Tryz.prog W = .ok (.slice (some ⟨W.heap.size, 0, none⟩) 2 2) (W.alloc (.cells #[.int .i64 0, .complex .f64 0 0, .complex .f64 0 0, .int .i64 0, .complex .f64 0 0, .complex .f64 0 0] 223)) := by
  obtain ⟨i, h1, h2, h3, h4⟩ := info_parts info223
  have := run_make (P := Tryz.prog) W 218 223 i _ Tryz.underlying218 h1 h2 .i64 .i64 2 2 (by omega) (by omega) (by rw [h4]; omega) (by omega)
  rw [h3] at this
  have e : madeCells (Value.agg #[.int .i64 0, .complex .f64 0 0, .complex .f64 0 0]).cells (Int.toNat 2 * 3) = #[.int .i64 0, .complex .f64 0 0, .complex .f64 0 0, .int .i64 0, .complex .f64 0 0, .complex .f64 0 0] := by kernel_rfl
  rw [e] at this
  exact this
structure TS (w : World) (b k : Nat) (w' : World) : Prop where
  bel : Below w.heap.size w w'
  hG : w.heap.size + 1 < w'.heap.size
  c0 : w'.cell? ⟨w.heap.size, 0, none⟩ = some (.pointer (some ⟨b, 0, none⟩))
  c1 : w'.cell? ⟨w.heap.size, 1, none⟩ = some (.slice (some ⟨w.heap.size + 1, 0, none⟩) 2 2)
  c2 : w'.cell? ⟨w.heap.size, 2, none⟩ = some (.int .i64 1)
  g3 : w'.cell? ⟨w.heap.size + 1, 3, none⟩ = some (.int .i64 0)
  g4 : w'.cell? ⟨w.heap.size + 1, 4, none⟩ = some (.complex .f64 0 (if k = 0 then 0 else 4611686018427387904))
  g5 : w'.cell? ⟨w.heap.size + 1, 5, none⟩ = some (.complex .f64 0 (if k = 0 then 0 else 4611686018427387904))
  f3 : w'.frozen? ⟨w.heap.size + 1, 3, none⟩ = false
  f4 : w'.frozen? ⟨w.heap.size + 1, 4, none⟩ = false
  f5 : w'.frozen? ⟨w.heap.size + 1, 5, none⟩ = false
theorem TS.next {w : World} {b k : Nat} {w1 w2 : World} (h : TS w b k w1) (hb : Below w1.heap.size w1 w2) : TS w b k w2 where
  bel := h.bel.trans (hb.mono h.bel.size)
  hG := Nat.lt_of_lt_of_le h.hG hb.size
  c0 := (hb.cell (p := ⟨w.heap.size, 0, none⟩) (Nat.lt_of_succ_lt h.hG)).trans h.c0
  c1 := (hb.cell (p := ⟨w.heap.size, 1, none⟩) (Nat.lt_of_succ_lt h.hG)).trans h.c1
  c2 := (hb.cell (p := ⟨w.heap.size, 2, none⟩) (Nat.lt_of_succ_lt h.hG)).trans h.c2
  g3 := (hb.cell (p := ⟨w.heap.size + 1, 3, none⟩) h.hG).trans h.g3
  g4 := (hb.cell (p := ⟨w.heap.size + 1, 4, none⟩) h.hG).trans h.g4
  g5 := (hb.cell (p := ⟨w.heap.size + 1, 5, none⟩) h.hG).trans h.g5
  f3 := (hb.frozen (p := ⟨w.heap.size + 1, 3, none⟩) h.hG).trans h.f3
  f4 := (hb.frozen (p := ⟨w.heap.size + 1, 4, none⟩) h.hG).trans h.f4
  f5 := (hb.frozen (p := ⟨w.heap.size + 1, 5, none⟩) h.hG).trans h.f5
abbrev leafW (w w5 : World) : World := ((w5.setCell ⟨w.heap.size + 1, 3, none⟩ (.int .i64 0)).setCell ⟨w.heap.size + 1, 4, none⟩ (.complex .f64 0 4611686018427387904)).setCell ⟨w.heap.size + 1, 5, none⟩ (.complex .f64 0 4611686018427387904)
theorem TS.leaf {w : World} {b k : Nat} {w1 : World} (h : TS w b k w1) : TS w b 1 (leafW w w1) := by
  have hc0 := h.c0
  have hc1 := h.c1
  have hc2 := h.c2
  have hg3 := h.g3
  have hg4 := h.g4
  have hg5 := h.g5
  have hf3 := h.f3
  have hf4 := h.f4
  have hf5 := h.f5
  exact {
    bel := ((h.bel.setCell (by simp) _).setCell (by simp) _).setCell (by simp) _
    hG := by have := h.hG; simpa [leafW, World.setCell] using this
    c0 := by simp [leafW, go_sem, hc0]
    c1 := by simp [leafW, go_sem, hc1]
    c2 := by simp [leafW, go_sem, hc2]
    g3 := by simp [leafW, go_sem, hg3]
    g4 := by simp [leafW, go_sem, hg4]
    g5 := by simp [leafW, go_sem, hg5]
    f3 := by simp [leafW, go_sem, hf3]
    f4 := by simp [leafW, go_sem, hf4]
    f5 := by simp [leafW, go_sem, hf5] }
abbrev treeW (w : World) (b m : Nat) : World := (((w.alloc (Obj.cells #[Value.pointer (some ⟨b, 0, none⟩), Value.slice none 0 0, Value.int IntKind.i64 1] 220)).drewN m).setCell ⟨w.heap.size, 1, none⟩ (.slice (some ⟨w.heap.size + 1, 0, none⟩) 2 2)).alloc (Obj.cells #[.int .i64 0, .complex .f64 0 0, .complex .f64 0 0, .int .i64 0, .complex .f64 0 0, .complex .f64 0 0] 223)
theorem treeW_below (w : World) (b m : Nat) : Below w.heap.size w (treeW w b m) :=
  ((below_drewN ((Below.refl _ w).alloc (Nat.le_refl _) _) m).setCell (Nat.le_refl _) _).alloc (by simp [World.setCell]) _
theorem TS.start (w : World) (b m : Nat) : TS w b 0 (treeW w b m) where
  bel := treeW_below w b m
  hG := by simp [treeW, World.setCell]
  c0 := by simp [treeW, go_sem]
  c1 := by simp [treeW, go_sem]
  c2 := by simp [treeW, go_sem]
  g3 := by simp [treeW, go_sem]
  g4 := by simp [treeW, go_sem]
  g5 := by simp [treeW, go_sem]
  f3 := by simp [treeW, go_sem]
  f4 := by simp [treeW, go_sem]
  f5 := by simp [treeW, go_sem]
def Tr (w : World) (p b : Nat) : Prop := ∃ G, p < w.heap.size ∧ G < w.heap.size ∧ w.cell? ⟨p, 0, none⟩ = some (.pointer (some ⟨b, 0, none⟩)) ∧ w.cell? ⟨p, 1, none⟩ = some (.slice (some ⟨G, 0, none⟩) 2 2) ∧ w.cell? ⟨p, 2, none⟩ = some (.int .i64 1) ∧ w.cell? ⟨G, 3, none⟩ = some (.int .i64 0) ∧ w.cell? ⟨G, 4, none⟩ = some (.complex .f64 0 4611686018427387904)
theorem Tr.of {w w' : World} {b : Nat} (h : TS w b 1 w') : Tr w' w.heap.size b := ⟨_, Nat.lt_of_succ_lt h.hG, h.hG, h.c0, h.c1, h.c2, h.g3, h.g4⟩
theorem Tr.below {w w' : World} {p b : Nat} (h : Tr w p b) (hb : Below w.heap.size w w') : Tr w' p b := by
  obtain ⟨G, h1, h2, h3, h4, h5, h6, h7⟩ := h
  exact ⟨G, Nat.lt_of_lt_of_le h1 hb.size, Nat.lt_of_lt_of_le h2 hb.size, (hb.cell (p := ⟨p, 0, none⟩) h1).trans h3, (hb.cell (p := ⟨p, 1, none⟩) h1).trans h4, (hb.cell (p := ⟨p, 2, none⟩) h1).trans h5, (hb.cell (p := ⟨G, 3, none⟩) h2).trans h6, (hb.cell (p := ⟨G, 4, none⟩) h2).trans h7⟩
def TSo (w : World) (b : Nat) (w' : World) : Prop := ∃ k, TS w b k w'
theorem TS.held {w : World} {b k : Nat} {w' : World} (h : TS w b k w') : w'.cell? ⟨w.heap.size, 1, none⟩ = some (.slice (some ⟨w.heap.size + 1, 0, none⟩) 2 2) ∧ w'.cell? ⟨w.heap.size, 2, none⟩ = some (.int .i64 1) ∧ Hid (TSo w b w') :=
  ⟨h.c1, h.c2, Lib.hid ⟨k, h⟩⟩
theorem quiet_sum {P : Program} {f : FuncId} {args : Array Value} {w : World} {m x : Nat} {v : Value} (h : Calls P f args (w.drewN (m + x)) fun e w' => e = .returned v ∧ w.drewN (m + x) = w') : Calls P f args (w.drewN (m + x)) fun e w'' => e = .returned v ∧ ∃ n, w'' = w.drewN (m + n) :=
  h.mono fun _ _ ⟨he, hm⟩ => ⟨he, x, hm.symm⟩
theorem rlen4 (b : Nat) (w : World) (h : Rw w b 3 4) : Calls Tryz.prog 122 #[.pointer (some ⟨b, 0, none⟩)] w fun e w' => e = .returned (.int .i64 4) ∧ w = w' := rlen_any b 3 4 w h
set_option maxRecDepth 100000 in
set_option maxHeartbeats 1000000 in
theorem tnew_any (b : Nat) (w : World) (h : Rw w b 3 4) : Calls Tryz.prog 82 #[.pointer (some ⟨b, 0, none⟩)] w fun e w' => e = .returned (.pointer (some ⟨w.heap.size, 0, none⟩)) ∧ Below w.heap.size w w' ∧ Tr w' w.heap.size b := by
  go_enter Tryz.func82, Tryz.ntmps82
  go_wp2_with fail
  have h1 := h.alloc (Obj.cells #[Value.pointer (some ⟨b, 0, none⟩), Value.slice none 0 0, Value.int IntKind.i64 1] 220)
  go_loopg [] 1 (fun g wr => ∃ m, wr = (w.alloc (Obj.cells #[Value.pointer (some ⟨b, 0, none⟩), Value.slice none 0 0, Value.int IntKind.i64 1] 220)).drewN m)
  case atStart => exact ⟨0, rfl⟩
  case round =>
    obtain ⟨m, rfl⟩ := hrel
    go_wp2_with fail
    go_quiet ((go_at_call 122; exact quiet_sum (rlen4 b _ (h1.drewN _))))
    have hmk := make_nodes
    go_wp2_with fail
    go_loopg [4, 37] 1 (fun g i0 i wr => ∃ k : Nat, k ≤ 1 ∧ g = 1 - k ∧ i = .int .i64 k ∧ Hid (TS w b k wr))
    case atStart =>
      exact ⟨0, by omega, rfl, rfl, Lib.hid (TS.start w b _)⟩
    case round =>
      obtain ⟨k, hk, rfl, rfl, HT⟩ := hrel
      by_cases hlt : k < 1
      · obtain rfl : k = 0 := by omega
        have HTd := Lib.hid (HT.out.next ((Below.refl _ _).drew))
        have e1 : IntKind.i64.wrap (1 + ((0 : Nat) : Int)) = 1 := by decide
        have e2 : IntKind.i64.wrap (((0 : Nat) : Int) * 512) = 0 := by decide
        have e3 : IntKind.i64.wrap 1 = 1 := by decide
        have e4 : IntKind.i64.wrap 0 = 0 := by decide
        go_wp2_with fail
        go_region_held3 (fun w' => w'.cell? ⟨w.heap.size, 1, none⟩ = some (.slice (some ⟨w.heap.size + 1, 0, none⟩) 2 2) ∧ w'.cell? ⟨w.heap.size, 2, none⟩ = some (.int .i64 1) ∧ Hid (TSo w b w')) (first | assumption | exact TS.held HT.out | exact TS.held HTd.out | exact TS.held (Hid.out (by assumption)) | exact TS.held (TS.leaf (Hid.out (by assumption))))
          (first | (go_at_call 124; refine (leaf_any b _ (h.below (TS.bel (Hid.out (by first | exact HT | exact HTd))))).mono ?_; rintro e w5 ⟨rfl, hb⟩; have HX := Lib.hid (TS.next (Hid.out (by first | exact HT | exact HTd)) hb); clear hb; have g3 := HX.out.g3; have g4 := HX.out.g4; have g5 := HX.out.g5; have f3 := HX.out.f3; have f4 := HX.out.f4; have f5 := HX.out.f5))
        go_wp2_with fail
        go_roundg 0
        case measure => go_light; omega
        case rel => go_light; exact ⟨1, by omega, rfl, by go_num, Lib.hid (TS.leaf HX.out)⟩
      · obtain rfl : k = 1 := by omega
        have c2 := HT.out.c2
        go_wp2_with fail
        go_loopg [5] 1 (fun g i wx => i = .int .i64 0 ∧ wx = wr)
        case atStart => exact ⟨rfl, rfl⟩
        case round =>
          obtain ⟨rfl, rfl⟩ := hrel
          go_wp2_with fail
          go_ret
          exact ⟨rfl, HT.out.bel, Tr.of HT.out⟩
end Go.Proofs.YtjelneeeijjpiaaGreatDoor
end
section
namespace Go.Proofs.YtjelneeeijjpiaaGreatDoor
open Go.RowKit
theorem Tr.drewN {w : World} {p b : Nat} (h : Tr w p b) (m : Nat) : Tr (w.drewN m) p b := h.below (below_drewN (Below.refl _ _) m)
set_option maxRecDepth 100000 in
set_option maxHeartbeats 1000000 in
theorem may_any (p b : Nat) (d : Int) (hd : 0 ≤ d ∧ d ≤ 4) (w : World) (h : Rw w b 3 4) (ht : Tr w p b) : Calls Tryz.prog 359 #[.pointer (some ⟨p, 0, none⟩), .int .i64 d] w fun e w' => e = .returned (.bool true) ∧ ∃ m, w' = w.drewN m := by
  obtain ⟨G, h1, h2, h3, h4, h5, h6, h7⟩ := ht
  have k1 : decide (d ≤ 4) = true := by rw [decide_eq_true_eq]; omega
  have k2 : decide (-4 ≤ d) = true := by rw [decide_eq_true_eq]; omega
  have k3 : IntKind.i64.wrap (-4) = -4 := by decide
  go_enter Tryz.func359, Tryz.ntmps359
  go_wp2_with (first | (go_at_call 122; refine (rlen4 b _ (by first | exact h | exact h.drewN _)).mono ?_; rintro e w1 ⟨rfl, rfl⟩))
  go_ret
  exact ⟨rfl, 0, rfl⟩
set_option maxRecDepth 100000 in
set_option maxHeartbeats 1000000 in
theorem balanced_any (p b : Nat) (w : World) (h : Rw w b 3 4) (ht : Tr w p b) : Calls Tryz.prog 83 #[.pointer (some ⟨p, 0, none⟩)] w fun e w' => e = .returned (.bool true) ∧ ∃ m, w' = w.drewN m := by
  obtain ⟨G, h1, h2, h3, h4, h5, h6, h7⟩ := ht
  go_enter Tryz.func83, Tryz.ntmps83
  go_wp2_with (first | (go_at_call 122; refine (rlen4 b _ (by first | exact h | exact h.drewN _)).mono ?_; rintro e w1 ⟨rfl, rfl⟩))
  go_ret
  exact ⟨ret_bool (by rw [show FloatKind.f64.format.order 0 0 = some .eq by decide +kernel]; rfl), 0, rfl⟩
set_option maxRecDepth 100000 in
set_option maxHeartbeats 1000000 in
theorem tforth_any (p b : Nat) (w : World) (h : Rw w b 3 4) (ht : Tr w p b) : Calls Tryz.prog 333 #[.pointer (some ⟨p, 0, none⟩), .int .i64 1, .int .i64 0] w fun e w' => e = .returned (.int .i64 2) ∧ ∃ m, w' = w.drewN m := by
  have ht0 := ht
  obtain ⟨G, h1, h2, h3, h4, h5, h6, h7⟩ := ht
  go_enter Tryz.func333, Tryz.ntmps333
  go_wp2
  go_step3
  go_wp2_with fail
  refine (may_any p b 0 (by omega) _ h ht0).mono ?_; rintro e w1 ⟨rfl, m1, rfl⟩
  go_wp2_with (first | (go_at_call 122; refine (rlen4 b _ (by first | exact h | exact h.drewN _)).mono ?_; rintro e w1 ⟨rfl, rfl⟩) | (go_at_call 360; refine (pforth_any b _ (by first | exact h | exact h.drewN _)).mono ?_; rintro e w1 ⟨rfl, m2, rfl⟩))
  rw [Exit.noGoto_ret]
  go_ret
  exact ⟨rfl, _, rfl⟩
set_option maxRecDepth 100000 in
set_option maxHeartbeats 1000000 in
theorem tback_any (p b : Nat) (w : World) (h : Rw w b 3 4) (ht : Tr w p b) : Calls Tryz.prog 337 #[.pointer (some ⟨p, 0, none⟩), .int .i64 1, .int .i64 1] w fun e w' => e = .returned (.int .i64 0) ∧ ∃ m, w' = w.drewN m := by
  have ht0 := ht
  obtain ⟨G, h1, h2, h3, h4, h5, h6, h7⟩ := ht
  go_enter Tryz.func337, Tryz.ntmps337
  go_wp2
  go_step3
  go_wp2_with fail
  refine (may_any p b 1 (by omega) _ h ht0).mono ?_; rintro e w1 ⟨rfl, m1, rfl⟩
  go_wp2_with (first | (go_at_call 122; refine (rlen4 b _ (by first | exact h | exact h.drewN _)).mono ?_; rintro e w1 ⟨rfl, rfl⟩) | (go_at_call 363; refine (pback_any b _ (by first | exact h | exact h.drewN _)).mono ?_; rintro e w1 ⟨rfl, m2, rfl⟩))
  rw [Exit.noGoto_ret]
  go_ret
  exact ⟨rfl, _, rfl⟩
end Go.Proofs.YtjelneeeijjpiaaGreatDoor
end
