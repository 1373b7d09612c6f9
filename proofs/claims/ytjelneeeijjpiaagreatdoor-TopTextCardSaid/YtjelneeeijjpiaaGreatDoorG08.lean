/- TopText: walks and plain laws, part 8: lemmas on what the functions that the law comes to compute. -/
import Derived.Test.YtjelneeeijjpiaaGreatDoorG07
import Derived.StillTailTactics
import Derived.Deep.RegionLaw
import Derived.Deep.AppendLies
set_option linter.unusedVariables false
set_option linter.unusedSimpArgs false
section
namespace Go.Proofs.YtjelneeeijjpiaaGreatDoor
open Go.RowKit
theorem and_full : ∀ x : Nat, x < 256 → bits .and .u64 (x : Int) 18446744073709551615 = (x : Int) := by decide +kernel
set_option maxRecDepth 100000 in
theorem ones_full (x : Nat) (hx : x < 256) (w : World) : Calls Tryz.prog 172 #[.int .u64 (x : Nat), .int .i64 64] w fun e w' => e = .returned (.int .i64 (pop x : Nat)) ∧ w = w' := by
  have hk := and_full x hx
  go_enter Tryz.func172, Tryz.ntmps172
  go_wp2_with (first | (go_at_call 226; refine (ones64 x hx _).mono ?_; rintro e w1 ⟨rfl, rfl⟩) | go_in)
  go_ret
  exact ⟨rfl, rfl⟩
theorem word1_int (b x n : Nat) (k : Int) (w : World) (h : Rw w b x n) (hk : 1 ≤ k) : Calls Tryz.prog 127 #[.pointer (some ⟨b, 0, none⟩), .int .i64 k] w fun e w' => e = .returned (.int .u64 0) ∧ w = w' := by
  obtain ⟨j, rfl⟩ : ∃ j : Nat, k = j := ⟨k.toNat, by omega⟩
  exact word1_any b x n j w h (by omega)
theorem ones_none (w : World) : Calls Tryz.prog 172 #[.int .u64 0, .int .i64 64] w fun e w' => e = .returned (.int .i64 0) ∧ w = w' := ones_full 0 (by omega) w
def Ek : Nat → Nat
  | 0 => 0
  | 1 => 0
  | k + 2 => Ek (k + 1) + 2 * 2 ^ (9 * k)
structure DS (w : World) (b : Nat) (w' : World) : Prop where
  bel : Below w.heap.size w w'
  hD : w.heap.size < w'.heap.size
  c0 : w'.cell? ⟨w.heap.size, 0, none⟩ = some (.pointer (some ⟨b, 0, none⟩))
  c1 : w'.cell? ⟨w.heap.size, 1, none⟩ = some (.slice none 0 0)
  f1 : w'.frozen? ⟨w.heap.size, 1, none⟩ = false
theorem DS.next {w : World} {b : Nat} {w1 w2 : World} (h : DS w b w1) (hb : Below w1.heap.size w1 w2) : DS w b w2 where
  bel := h.bel.trans (hb.mono h.bel.size)
  hD := Nat.lt_of_lt_of_le h.hD hb.size
  c0 := (hb.cell (p := ⟨w.heap.size, 0, none⟩) h.hD).trans h.c0
  c1 := (hb.cell (p := ⟨w.heap.size, 1, none⟩) h.hD).trans h.c1
  f1 := (hb.frozen (p := ⟨w.heap.size, 1, none⟩) h.hD).trans h.f1
theorem info286 : (Tryz.prog.info? 286).map (fun i => (i.zero, i.size, i.bytes)) = some (some (.agg #[.int .u64 0, .int .u64 0]), 2, 16) := by kernel_rfl
structure ES (wr : World) (k : Nat) (wx : World) : Prop where
  bel : Below wr.heap.size wr wx
  hN : wr.heap.size < wx.heap.size
  c0 : wx.cell? ⟨wr.heap.size, 0, none⟩ = some (.int .u64 0)
  c1 : wx.cell? ⟨wr.heap.size, 1, none⟩ = some (.int .u64 (Ek k : Nat))
  f1 : wx.frozen? ⟨wr.heap.size, 1, none⟩ = false
theorem ES.drewN {wr wx : World} {k : Nat} (h : ES wr k wx) (m : Nat) : ES wr k (wx.drewN m) :=
  ⟨below_drewN h.bel m, h.hN, by simpa using h.c0, by simpa using h.c1, by simpa using h.f1⟩
theorem ES.drew {wr wx : World} {k : Nat} (h : ES wr k wx) : ES wr k wx.drew :=
  ⟨h.bel.drew, h.hN, h.c0, h.c1, h.f1⟩
theorem ES.set {wr wx : World} {k : Nat} (h : ES wr k wx) (v : Int) (hv : v = ((Ek (k + 1) : Nat) : Int)) : ES wr (k + 1) (wx.setCell ⟨wr.heap.size, 1, none⟩ (.int .u64 v)) := by
  have h0 := h.c0
  have h1 := h.c1
  have h2 := h.f1
  subst hv
  exact ⟨h.bel.setCell (Nat.le_refl _) _, by have := h.hN; simpa [World.setCell] using this, by simp [go_sem, h0], by simp [go_sem, h1], by simp [go_sem, h2]⟩
def Dr (w : World) (p b : Nat) : Prop := ∃ G cap, p < w.heap.size ∧ G < w.heap.size ∧ w.cell? ⟨p, 0, none⟩ = some (.pointer (some ⟨b, 0, none⟩)) ∧ w.cell? ⟨p, 1, none⟩ = some (.slice (some ⟨G, 0, none⟩) 1 cap) ∧ w.cell? ⟨G, 0, none⟩ = some (.int .u64 0) ∧ w.cell? ⟨G, 1, none⟩ = some (.int .u64 (Ek 8 : Nat))
theorem cell_set_ne {w : World} {a b : Addr} {v : Value} (h : b.block ≠ a.block) : (w.setCell a v).cell? b = w.cell? b := World.cell?_setCell_other _ _ _ _ (fun e => h (by rw [e]))
theorem Dr.made {w wr W w6 : World} {b gb cap : Nat} (HD : DS w b wr) (hW : Below wr.heap.size wr W) (hg : W.grownBy w6 none) (ho : w6.ownsRow w.heap.size 286 2 (.slice (some ⟨gb, 0, none⟩) (0 + 1) cap) (0 + 1) ([] ++ [.int .u64 0, .int .u64 36099303471055874])) (hor : (Value.slice none 0 0).ownBlock = some gb ∨ gb = W.heap.size) (hlt : gb < w6.heap.size) :
    Below w.heap.size w (w6.setCell ⟨w.heap.size, 1, none⟩ (.slice (some ⟨gb, 0, none⟩) 1 cap)) ∧ Dr (w6.setCell ⟨w.heap.size, 1, none⟩ (.slice (some ⟨gb, 0, none⟩) 1 cap)) w.heap.size b := by
  have hgb : gb = W.heap.size := by
    rcases hor with h | h
    · simp [Value.ownBlock] at h
    · exact h
  have hD := HD.hD
  have hWs := hW.size
  have hne : gb ≠ w.heap.size := by omega
  have b1 : Below w.heap.size w W := HD.bel.trans (hW.mono HD.bel.size)
  have b2 : Below w.heap.size w w6 := b1.grown hg b1.size (by simp)
  have c0 : w6.cell? ⟨w.heap.size, 0, none⟩ = some (.pointer (some ⟨b, 0, none⟩)) := by
    rw [World.grownBy.cell_far hg ⟨w.heap.size, 0, none⟩ (by simp; omega) (by simp), hW.cell (p := ⟨w.heap.size, 0, none⟩) hD]; exact HD.c0
  have c1 : w6.cell? ⟨w.heap.size, 1, none⟩ = some (.slice none 0 0) := by
    rw [World.grownBy.cell_far hg ⟨w.heap.size, 1, none⟩ (by simp; omega) (by simp), hW.cell (p := ⟨w.heap.size, 1, none⟩) hD]; exact HD.c1
  have g0 := ho.cellAt 0 (by omega)
  have g1 := ho.cellAt 1 (by omega)
  simp at g0 g1
  have hs := hg.size
  refine ⟨b2.setCell (Nat.le_refl _) _, gb, cap, by simp [World.setCell]; omega, by simpa [World.setCell] using hlt, by simp [go_sem, c0], by simp [go_sem, c1], ?_, ?_⟩
  · rw [cell_set_ne (by simpa using hne)]; exact g0
  · rw [cell_set_ne (by simpa using hne)]; rw [g1]; exact congrArg some (congrArg (Value.int .u64) (by decide +kernel))
set_option maxRecDepth 100000 in
set_option maxHeartbeats 1000000 in
theorem rnew_any (b x n : Nat) (w : World) (h : Rw w b x n) (hx : x < 256) (hn : n < 9) (hp : pop x = 2) : Calls Tryz.prog 126 #[.pointer (some ⟨b, 0, none⟩)] w fun e w' => e = .returned (.pointer (some ⟨w.heap.size, 0, none⟩)) ∧ Below w.heap.size w w' ∧ Dr w' w.heap.size b := by
  go_enter Tryz.func126, Tryz.ntmps126
  go_wp2_with fail
  go_loopg [4, 5] 1 (fun g al at' wr => (g = 1 ∧ al = .int .i64 0 ∧ at' = .int .i64 0 ∧ Hid (DS w b wr)) ∨ (g = 0 ∧ al = .int .i64 2 ∧ at' = .int .i64 512 ∧ Hid (Below w.heap.size w wr ∧ Dr wr w.heap.size b)))
  case atStart =>
    refine .inl ⟨rfl, rfl, rfl, Lib.hid { bel := (Below.refl _ w).alloc (Nat.le_refl _) _, hD := by simp, c0 := by simp [go_sem], c1 := by simp [go_sem], f1 := by simp [go_sem] }⟩
  case round =>
    rcases hrel with ⟨rfl, rfl, rfl, HS⟩ | ⟨rfl, rfl, rfl, HR⟩
    · have hn0 : (0 : Int) ≤ (n : Int) := by omega
      go_wp2_with (first | (go_at_call 122; refine (rlen_any b x n _ (h.below HS.out.bel)).mono ?_; rintro e w1 ⟨rfl, rfl⟩))
      go_loopg [7, 8, 21] 8 (fun g n' kk i wx => ∃ k : Nat, k ≤ 8 ∧ g = 8 - k ∧ i = .int .i64 k ∧ n' = .int .i64 (if k = 0 then 0 else 2) ∧ Hid (ES wr k wx))
      case atStart =>
        exact ⟨0, by omega, rfl, rfl, rfl, Lib.hid ⟨(Below.refl _ _).alloc (Nat.le_refl _) _, by simp, by simp [go_sem], by simp [go_sem, Ek], by simp [go_sem]⟩⟩
      case round =>
        obtain ⟨k, hk, rfl, rfl, rfl, HE⟩ := hrel
        have hRw := h.below (HS.out.bel.trans (HE.out.bel.mono HS.out.bel.size))
        by_cases h0 : k = 0
        · subst h0
          go_wp2_with (first | (go_at_call 127; refine (word0_any b x n _ hRw).mono ?_; rintro e w1 ⟨rfl, rfl⟩) | (go_at_call 172; refine (ones_full x hx _).mono ?_; rintro e w1 ⟨rfl, rfl⟩))
          go_roundg 7
          case measure => go_light; omega
          case rel => go_light; exact ⟨1, by omega, rfl, by go_num, i64_eq (by rw [if_neg (by omega)]), Lib.hid ⟨HE.out.bel, HE.out.hN, HE.out.c0, HE.out.c1, HE.out.f1⟩⟩
        · by_cases h8 : k = 8
          · subst h8
            have e0 := HE.out.c0
            have e1 := HE.out.c1
            have HD := Lib.hid (HS.out.next HE.out.bel)
            have d1 := HD.out.c1
            have d2 := HD.out.f1
            obtain ⟨i0, hi0, hz0, hs0, hb0⟩ := info_parts info286
            rw [show ((Ek 8 : Nat) : Int) = 36099303471055874 by decide +kernel] at e1
            go_wp2_with fail
            have hDlt : w.heap.size < wr.heap.size := HD.out.hD
            have hcl : ∀ o : Obj, (wr.alloc o).drew.cell? ⟨w.heap.size, 1, none⟩ = some (.slice none 0 0) := fun o => by rw [show (wr.alloc o).drew.cell? ⟨w.heap.size, 1, none⟩ = (wr.alloc o).cell? ⟨w.heap.size, 1, none⟩ from rfl, World.cell?_alloc_past _ _ _ hDlt]; exact d1
            have hfl : ∀ o : Obj, (wr.alloc o).drew.frozen? ⟨w.heap.size, 1, none⟩ = false := fun o => by rw [show (wr.alloc o).drew.frozen? ⟨w.heap.size, 1, none⟩ = (wr.alloc o).frozen? ⟨w.heap.size, 1, none⟩ from rfl, World.frozen?_alloc_past _ _ _ hDlt]; exact d2
            have hbs : w.heap.size ≤ ((wr.alloc (.cells #[.int .u64 0, .int .u64 36099303471055874] 286)).drew).heap.size := by have := HD.out.hD; simp; omega
            go_region_law ((refine step_append_lies _ rfl (.tmp 50) (.tmp 52) 282 rfl w.heap.size 286 i0 _ 2 16 Tryz.underlying282 hi0 hz0 hs0 hb0 rfl (by omega) (.slice none 0 0) 0 [] rfl (World.ownsRow_nil _ _ _ _) ⟨wr.heap.size, 0, none⟩ 1 1 [.int .u64 0, .int .u64 36099303471055874] rfl rfl (World.news_of_block (heap_alloc_new wr _)) (by intro u hu; simp at hu; rcases hu with rfl | rfl <;> rfl) (by omega) (by unfold maxLen; omega) (by omega) hbs _ rfl ?_; intro gb cap w6 ho hg hor hlt; have d1' := (World.grownBy.cell_far hg ⟨w.heap.size, 1, none⟩ (by simp; omega) (by simp [Value.ownBlock])).trans (hcl _); have d2' := (World.grownBy.frozen_far hg ⟨w.heap.size, 1, none⟩ (by simp; omega) (by simp [Value.ownBlock])).trans (hfl _)))
            all_goals
              have HM := Lib.hid (Dr.made HD.out (((Below.refl _ wr).alloc (Nat.le_refl _) _).drew) hg ho hor hlt)
              clear hg ho hor hlt
              go_wp2_with fail
              go_roundg 0
              case measure => go_light; omega
              case rel => go_light; exact .inr ⟨rfl, rfl, rfl, HM⟩
          · have hk7 : k = 1 ∨ k = 2 ∨ k = 3 ∨ k = 4 ∨ k = 5 ∨ k = 6 ∨ k = 7 := by omega
            clear hk h0 h8
            rcases hk7 with rfl | rfl | rfl | rfl | rfl | rfl | rfl
            · have c1 := HE.out.c1
              simp only [Ek] at c1
              have f1 := HE.out.f1
              have q0 : IntKind.i64.wrap 0 = 0 := by decide
              have q1 : IntKind.i64.wrap 1 = 1 := by decide
              have q2 : IntKind.i64.wrap 2 = 2 := by decide
              have q3 : IntKind.i64.wrap 3 = 3 := by decide
              have q4 : IntKind.i64.wrap 4 = 4 := by decide
              have q5 : IntKind.i64.wrap 5 = 5 := by decide
              have q6 : IntKind.i64.wrap 6 = 6 := by decide
              have q9 : IntKind.i64.wrap 9 = 9 := by decide
              have q18 : IntKind.i64.wrap 18 = 18 := by decide
              have q27 : IntKind.i64.wrap 27 = 27 := by decide
              have q36 : IntKind.i64.wrap 36 = 36 := by decide
              have q45 : IntKind.i64.wrap 45 = 45 := by decide
              have q54 : IntKind.i64.wrap 54 = 54 := by decide
              have qu : IntKind.u64.wrap 2 = 2 := by decide
              go_wp2_with fail
              go_region_law (fail)
              go_wp2_with (first | (go_at_call 127; refine (word1_int b x n _ _ (h.below (HS.out.bel.trans (((HE.out.bel.setCell (Nat.le_refl _) _).drew).mono HS.out.bel.size))) (by decide)).mono ?_; rintro e w1 ⟨rfl, rfl⟩) | (go_at_call 172; refine (ones_none _).mono ?_; rintro e w1 ⟨rfl, rfl⟩))
              go_roundg 6
              case measure => go_light; omega
              case rel => go_light; exact ⟨2, by omega, rfl, by go_num, i64_eq (by rw [if_neg (by omega)]), Lib.hid (ES.drew (HE.out.set _ (by decide +kernel)))⟩
            · have c1 := HE.out.c1
              simp only [Ek] at c1
              have f1 := HE.out.f1
              have q0 : IntKind.i64.wrap 0 = 0 := by decide
              have q1 : IntKind.i64.wrap 1 = 1 := by decide
              have q2 : IntKind.i64.wrap 2 = 2 := by decide
              have q3 : IntKind.i64.wrap 3 = 3 := by decide
              have q4 : IntKind.i64.wrap 4 = 4 := by decide
              have q5 : IntKind.i64.wrap 5 = 5 := by decide
              have q6 : IntKind.i64.wrap 6 = 6 := by decide
              have q9 : IntKind.i64.wrap 9 = 9 := by decide
              have q18 : IntKind.i64.wrap 18 = 18 := by decide
              have q27 : IntKind.i64.wrap 27 = 27 := by decide
              have q36 : IntKind.i64.wrap 36 = 36 := by decide
              have q45 : IntKind.i64.wrap 45 = 45 := by decide
              have q54 : IntKind.i64.wrap 54 = 54 := by decide
              have qu : IntKind.u64.wrap 2 = 2 := by decide
              go_wp2_with fail
              go_region_law (fail)
              go_wp2_with (first | (go_at_call 127; refine (word1_int b x n _ _ (h.below (HS.out.bel.trans (((HE.out.bel.setCell (Nat.le_refl _) _).drew).mono HS.out.bel.size))) (by decide)).mono ?_; rintro e w1 ⟨rfl, rfl⟩) | (go_at_call 172; refine (ones_none _).mono ?_; rintro e w1 ⟨rfl, rfl⟩))
              go_roundg 5
              case measure => go_light; omega
              case rel => go_light; exact ⟨3, by omega, rfl, by go_num, i64_eq (by rw [if_neg (by omega)]), Lib.hid (ES.drew (HE.out.set _ (by decide +kernel)))⟩
            · have c1 := HE.out.c1
              simp only [Ek] at c1
              have f1 := HE.out.f1
              have q0 : IntKind.i64.wrap 0 = 0 := by decide
              have q1 : IntKind.i64.wrap 1 = 1 := by decide
              have q2 : IntKind.i64.wrap 2 = 2 := by decide
              have q3 : IntKind.i64.wrap 3 = 3 := by decide
              have q4 : IntKind.i64.wrap 4 = 4 := by decide
              have q5 : IntKind.i64.wrap 5 = 5 := by decide
              have q6 : IntKind.i64.wrap 6 = 6 := by decide
              have q9 : IntKind.i64.wrap 9 = 9 := by decide
              have q18 : IntKind.i64.wrap 18 = 18 := by decide
              have q27 : IntKind.i64.wrap 27 = 27 := by decide
              have q36 : IntKind.i64.wrap 36 = 36 := by decide
              have q45 : IntKind.i64.wrap 45 = 45 := by decide
              have q54 : IntKind.i64.wrap 54 = 54 := by decide
              have qu : IntKind.u64.wrap 2 = 2 := by decide
              go_wp2_with fail
              go_region_law (fail)
              go_wp2_with (first | (go_at_call 127; refine (word1_int b x n _ _ (h.below (HS.out.bel.trans (((HE.out.bel.setCell (Nat.le_refl _) _).drew).mono HS.out.bel.size))) (by decide)).mono ?_; rintro e w1 ⟨rfl, rfl⟩) | (go_at_call 172; refine (ones_none _).mono ?_; rintro e w1 ⟨rfl, rfl⟩))
              go_roundg 4
              case measure => go_light; omega
              case rel => go_light; exact ⟨4, by omega, rfl, by go_num, i64_eq (by rw [if_neg (by omega)]), Lib.hid (ES.drew (HE.out.set _ (by decide +kernel)))⟩
            · have c1 := HE.out.c1
              simp only [Ek] at c1
              have f1 := HE.out.f1
              have q0 : IntKind.i64.wrap 0 = 0 := by decide
              have q1 : IntKind.i64.wrap 1 = 1 := by decide
              have q2 : IntKind.i64.wrap 2 = 2 := by decide
              have q3 : IntKind.i64.wrap 3 = 3 := by decide
              have q4 : IntKind.i64.wrap 4 = 4 := by decide
              have q5 : IntKind.i64.wrap 5 = 5 := by decide
              have q6 : IntKind.i64.wrap 6 = 6 := by decide
              have q9 : IntKind.i64.wrap 9 = 9 := by decide
              have q18 : IntKind.i64.wrap 18 = 18 := by decide
              have q27 : IntKind.i64.wrap 27 = 27 := by decide
              have q36 : IntKind.i64.wrap 36 = 36 := by decide
              have q45 : IntKind.i64.wrap 45 = 45 := by decide
              have q54 : IntKind.i64.wrap 54 = 54 := by decide
              have qu : IntKind.u64.wrap 2 = 2 := by decide
              go_wp2_with fail
              go_region_law (fail)
              go_wp2_with (first | (go_at_call 127; refine (word1_int b x n _ _ (h.below (HS.out.bel.trans (((HE.out.bel.setCell (Nat.le_refl _) _).drew).mono HS.out.bel.size))) (by decide)).mono ?_; rintro e w1 ⟨rfl, rfl⟩) | (go_at_call 172; refine (ones_none _).mono ?_; rintro e w1 ⟨rfl, rfl⟩))
              go_roundg 3
              case measure => go_light; omega
              case rel => go_light; exact ⟨5, by omega, rfl, by go_num, i64_eq (by rw [if_neg (by omega)]), Lib.hid (ES.drew (HE.out.set _ (by decide +kernel)))⟩
            · have c1 := HE.out.c1
              simp only [Ek] at c1
              have f1 := HE.out.f1
              have q0 : IntKind.i64.wrap 0 = 0 := by decide
              have q1 : IntKind.i64.wrap 1 = 1 := by decide
              have q2 : IntKind.i64.wrap 2 = 2 := by decide
              have q3 : IntKind.i64.wrap 3 = 3 := by decide
              have q4 : IntKind.i64.wrap 4 = 4 := by decide
              have q5 : IntKind.i64.wrap 5 = 5 := by decide
              have q6 : IntKind.i64.wrap 6 = 6 := by decide
              have q9 : IntKind.i64.wrap 9 = 9 := by decide
              have q18 : IntKind.i64.wrap 18 = 18 := by decide
              have q27 : IntKind.i64.wrap 27 = 27 := by decide
              have q36 : IntKind.i64.wrap 36 = 36 := by decide
              have q45 : IntKind.i64.wrap 45 = 45 := by decide
              have q54 : IntKind.i64.wrap 54 = 54 := by decide
              have qu : IntKind.u64.wrap 2 = 2 := by decide
              go_wp2_with fail
              go_region_law (fail)
              go_wp2_with (first | (go_at_call 127; refine (word1_int b x n _ _ (h.below (HS.out.bel.trans (((HE.out.bel.setCell (Nat.le_refl _) _).drew).mono HS.out.bel.size))) (by decide)).mono ?_; rintro e w1 ⟨rfl, rfl⟩) | (go_at_call 172; refine (ones_none _).mono ?_; rintro e w1 ⟨rfl, rfl⟩))
              go_roundg 2
              case measure => go_light; omega
              case rel => go_light; exact ⟨6, by omega, rfl, by go_num, i64_eq (by rw [if_neg (by omega)]), Lib.hid (ES.drew (HE.out.set _ (by decide +kernel)))⟩
            · have c1 := HE.out.c1
              simp only [Ek] at c1
              have f1 := HE.out.f1
              have q0 : IntKind.i64.wrap 0 = 0 := by decide
              have q1 : IntKind.i64.wrap 1 = 1 := by decide
              have q2 : IntKind.i64.wrap 2 = 2 := by decide
              have q3 : IntKind.i64.wrap 3 = 3 := by decide
              have q4 : IntKind.i64.wrap 4 = 4 := by decide
              have q5 : IntKind.i64.wrap 5 = 5 := by decide
              have q6 : IntKind.i64.wrap 6 = 6 := by decide
              have q9 : IntKind.i64.wrap 9 = 9 := by decide
              have q18 : IntKind.i64.wrap 18 = 18 := by decide
              have q27 : IntKind.i64.wrap 27 = 27 := by decide
              have q36 : IntKind.i64.wrap 36 = 36 := by decide
              have q45 : IntKind.i64.wrap 45 = 45 := by decide
              have q54 : IntKind.i64.wrap 54 = 54 := by decide
              have qu : IntKind.u64.wrap 2 = 2 := by decide
              go_wp2_with fail
              go_region_law (fail)
              go_wp2_with (first | (go_at_call 127; refine (word1_int b x n _ _ (h.below (HS.out.bel.trans (((HE.out.bel.setCell (Nat.le_refl _) _).drew).mono HS.out.bel.size))) (by decide)).mono ?_; rintro e w1 ⟨rfl, rfl⟩) | (go_at_call 172; refine (ones_none _).mono ?_; rintro e w1 ⟨rfl, rfl⟩))
              go_roundg 1
              case measure => go_light; omega
              case rel => go_light; exact ⟨7, by omega, rfl, by go_num, i64_eq (by rw [if_neg (by omega)]), Lib.hid (ES.drew (HE.out.set _ (by decide +kernel)))⟩
            · have c1 := HE.out.c1
              simp only [Ek] at c1
              have f1 := HE.out.f1
              have q0 : IntKind.i64.wrap 0 = 0 := by decide
              have q1 : IntKind.i64.wrap 1 = 1 := by decide
              have q2 : IntKind.i64.wrap 2 = 2 := by decide
              have q3 : IntKind.i64.wrap 3 = 3 := by decide
              have q4 : IntKind.i64.wrap 4 = 4 := by decide
              have q5 : IntKind.i64.wrap 5 = 5 := by decide
              have q6 : IntKind.i64.wrap 6 = 6 := by decide
              have q9 : IntKind.i64.wrap 9 = 9 := by decide
              have q18 : IntKind.i64.wrap 18 = 18 := by decide
              have q27 : IntKind.i64.wrap 27 = 27 := by decide
              have q36 : IntKind.i64.wrap 36 = 36 := by decide
              have q45 : IntKind.i64.wrap 45 = 45 := by decide
              have q54 : IntKind.i64.wrap 54 = 54 := by decide
              have qu : IntKind.u64.wrap 2 = 2 := by decide
              go_wp2_with fail
              go_region_law (fail)
              go_wp2_with (first | (go_at_call 127; refine (word1_int b x n _ _ (h.below (HS.out.bel.trans (((HE.out.bel.setCell (Nat.le_refl _) _).drew).mono HS.out.bel.size))) (by decide)).mono ?_; rintro e w1 ⟨rfl, rfl⟩) | (go_at_call 172; refine (ones_none _).mono ?_; rintro e w1 ⟨rfl, rfl⟩))
              go_roundg 0
              case measure => go_light; omega
              case rel => go_light; exact ⟨8, by omega, rfl, by go_num, i64_eq (by rw [if_neg (by omega)]), Lib.hid (ES.drew (HE.out.set _ (by decide +kernel)))⟩
    · have hn0 : ¬ (512 : Int) ≤ (n : Int) := by omega
      go_wp2_with (first | (go_at_call 122; refine (rlen_any b x n _ (h.below HR.out.1)).mono ?_; rintro e w1 ⟨rfl, rfl⟩))
      go_ret
      exact ⟨rfl, HR.out.1, HR.out.2⟩
end Go.Proofs.YtjelneeeijjpiaaGreatDoor
end
section
namespace Go.Proofs.YtjelneeeijjpiaaGreatDoor
open Go.RowKit
theorem info3 : (Tryz.prog.info? 3).map (fun i => (i.zero, i.size, i.bytes)) = some (some (.int .i64 0), 1, 8) := by kernel_rfl
theorem noted {w w6 : World} {C o gb cap : Nat} (hC : C < w.heap.size) (c0 : w.cell? ⟨C, o, none⟩ = some (.slice none 0 0)) (c1 : w.cell? ⟨C, o + 1, none⟩ = some (.int .i64 0)) (f0 : w.frozen? ⟨C, o, none⟩ = false) (f1 : w.frozen? ⟨C, o + 1, none⟩ = false) (m : Nat)
    (ho : w6.ownsRow w.heap.size 3 1 (.slice (some ⟨gb, 0, none⟩) (0 + 1) cap) (0 + 1) ([] ++ [.int .i64 0])) (hg : ((w.drewN m).alloc (.cells #[.int .i64 0] 3)).grownBy w6 (Value.slice none 0 0).ownBlock) (hor : (Value.slice none 0 0).ownBlock = some gb ∨ gb = ((w.drewN m).alloc (.cells #[.int .i64 0] 3)).heap.size) (hlt : gb < w6.heap.size) :
    w6.cell? ⟨C, o, none⟩ = some (.slice none 0 0) ∧ w6.cell? ⟨C, o + 1, none⟩ = some (.int .i64 0) ∧ w6.frozen? ⟨C, o, none⟩ = false ∧ w6.frozen? ⟨C, o + 1, none⟩ = false ∧ w6.cell? ⟨gb, 0, none⟩ = some (.int .i64 0) ∧ w.heap.size ≤ gb ∧ gb < w6.heap.size ∧ Below w.heap.size w w6 := by
  have hgb : gb = w.heap.size + 1 := by
    rcases hor with h | h
    · simp [Value.ownBlock] at h
    · simpa using h
  have b1 : Below w.heap.size w ((w.drewN m).alloc (.cells #[.int .i64 0] 3)) := (below_drewN (Below.refl _ w) m).alloc (Nat.le_refl _) _
  have b2 : Below w.heap.size w w6 := b1.grown hg b1.size (by simp [Value.ownBlock])
  have g0 := ho.cellAt 0 (by omega)
  simp at g0
  exact ⟨(b2.cell (p := ⟨C, o, none⟩) hC).trans c0, (b2.cell (p := ⟨C, o + 1, none⟩) hC).trans c1, (b2.frozen (p := ⟨C, o, none⟩) hC).trans f0, (b2.frozen (p := ⟨C, o + 1, none⟩) hC).trans f1, g0, by omega, hlt, b2⟩
set_option maxRecDepth 100000 in
set_option maxHeartbeats 1000000 in
theorem note_any (C o v k : Nat) (w : World) (hv : v < 256) (hk : pop v = k) (hk1 : 1 ≤ k) (hk8 : k ≤ 8) (c0 : w.cell? ⟨C, o, none⟩ = some (.slice none 0 0)) (c1 : w.cell? ⟨C, o + 1, none⟩ = some (.int .i64 0)) (f0 : w.frozen? ⟨C, o, none⟩ = false) (f1 : w.frozen? ⟨C, o + 1, none⟩ = false) (hC : C < w.heap.size) :
    Calls Tryz.prog 128 #[.pointer (some ⟨C, o, none⟩), .int .u64 (v : Nat), .int .i64 0] w fun e w' => e = .returned (.tuple #[]) ∧ ∃ G cap, w'.cell? ⟨C, o, none⟩ = some (.slice (some ⟨G, 0, none⟩) 1 cap) ∧ w'.cell? ⟨C, o + 1, none⟩ = some (.int .i64 (k : Nat)) ∧ w'.cell? ⟨G, 0, none⟩ = some (.int .i64 0) ∧ w.heap.size ≤ G ∧ G < w'.heap.size ∧ w.grownBy w' (some C) ∧ (∀ j, j ≠ o → j ≠ o + 1 → w'.cell? ⟨C, j, none⟩ = w.cell? ⟨C, j, none⟩ ∧ w'.frozen? ⟨C, j, none⟩ = w.frozen? ⟨C, j, none⟩) := by
  have hones := fun w => ones_full v hv w
  rw [hk] at hones
  have k1 : decide ((0 : Int) < (k : Int)) = true := by rw [decide_eq_true_eq]; omega
  go_enter Tryz.func128, Tryz.ntmps128
  go_wp2_with (first | (go_at_call 172; refine (hones _).mono ?_; rintro e w1 ⟨rfl, rfl⟩))
  have k2 : decide (0 < k) = true := by rw [decide_eq_true_eq]; omega
  have q1 : IntKind.i64.wrap 256 = 256 := by decide
  have q2 : IntKind.i64.wrap 255 = 255 := by decide
  have q3 : IntKind.i64.wrap 0 = 0 := by decide
  have q4 : IntKind.i64.wrap (k : Int) = (k : Int) := IntWalk.i64_in _ (by omega)
  obtain ⟨i0, hi0, hz0, hs0, hb0⟩ := info_parts info3
  go_quiet (fail)
  have hbs : w.heap.size ≤ ((w.drewN nq).alloc (.cells #[.int .i64 0] 3)).heap.size := by simp
  go_wp2_with (at_builtin; refine wpList_append_lies _ rfl (.tmp 32) (.tmp 35) 86 rfl w.heap.size 3 i0 (.int .i64 0) 1 8 Tryz.underlying86 hi0 hz0 hs0 hb0 rfl (by omega) (.slice none 0 0) 0 [] rfl (World.ownsRow_nil _ _ _ _) ⟨w.heap.size, 0, none⟩ 1 1 [.int .i64 0] rfl rfl (World.news_of_block (heap_alloc_new (w.drewN nq) _)) (by intro u hu; simp at hu; subst hu; rfl) (by omega) (by unfold maxLen; omega) (by omega) hbs _ rfl ?_; intro gb cap w6 ho hg hor hlt; have HN := Lib.hid (noted hC c0 c1 f0 f1 nq ho hg hor hlt); have e0 := HN.out.1; have e1 := HN.out.2.1; have e2 := HN.out.2.2.1; have e3 := HN.out.2.2.2.1; clear ho hg hor hlt)
  obtain ⟨h0, h1, h2, h3, h4, h5, h6, h7⟩ := HN.out
  have hne : gb ≠ C := by omega
  have s1 : (w6.setCell ⟨C, o, none⟩ (.slice (some ⟨gb, 0, none⟩) 1 cap)).cell? ⟨C, o + 1, none⟩ = some (.int .i64 0) := by simp [go_sem, h1]
  refine bodyPost_end (v := .tuple #[]) (by simp [results, Tryz.results128, go_sem]) rfl ⟨rfl, gb, cap, by simp [go_sem, h0, s1], by simp [go_sem, s1], ?_, h5, by simpa [World.setCell] using h6, ?_, fun j hj1 hj2 => ?_⟩
  · rw [cell_set_ne (by simpa using hne), cell_set_ne (by simpa using hne)]; exact h4
  · exact ⟨h7.os, h7.tape, h7.output, by simpa [World.setCell] using h7.size, fun i hi hne' => by
      rw [Below.heap_setCell _ _ _ _ (by simp; exact fun e => hne' (by rw [e])), Below.heap_setCell _ _ _ _ (by simp; exact fun e => hne' (by rw [e]))]; exact h7.block i hi⟩
  · have a0 : w6.cell? ⟨C, j, none⟩ = w.cell? ⟨C, j, none⟩ := h7.cell (p := ⟨C, j, none⟩) hC
    have b0 : w6.frozen? ⟨C, j, none⟩ = w.frozen? ⟨C, j, none⟩ := h7.frozen (p := ⟨C, j, none⟩) hC
    refine ⟨?_, ?_⟩
    · rw [World.cell?_setCell_other _ _ _ _ (by intro e; injection e with _ e; exact hj2 e.symm), World.cell?_setCell_other _ _ _ _ (by intro e; injection e with _ e; exact hj1 e.symm)]; exact a0
    · rw [World.frozen?_setCell, World.frozen?_setCell]; exact b0
end Go.Proofs.YtjelneeeijjpiaaGreatDoor
end
section
namespace Go.Proofs.YtjelneeeijjpiaaGreatDoor
open Go.RowKit
theorem Dr.below {w w' : World} {p b : Nat} (h : Dr w p b) (hb : Below w.heap.size w w') : Dr w' p b := by
  obtain ⟨G, cap, h1, h2, h3, h4, h5, h6⟩ := h
  exact ⟨G, cap, Nat.lt_of_lt_of_le h1 hb.size, Nat.lt_of_lt_of_le h2 hb.size, (hb.cell (p := ⟨p, 0, none⟩) h1).trans h3, (hb.cell (p := ⟨p, 1, none⟩) h1).trans h4, (hb.cell (p := ⟨G, 0, none⟩) h2).trans h5, (hb.cell (p := ⟨G, 1, none⟩) h2).trans h6⟩
theorem not_key : ∀ x : Nat, x < 256 → ∀ n : Nat, n < 9 → x < 2 ^ n → bits .and .u64 (18446744073709551615 - (x : Int)) ((2 ^ n - 1 : Nat) : Int) = ((2 ^ n - 1 - x : Nat) : Int) := by decide +kernel
theorem pop_not : ∀ x : Nat, x < 256 → ∀ n : Nat, n < 9 → x < 2 ^ n → pop x = 2 → pop (2 ^ n - 1 - x) = n - 2 := by decide +kernel
set_option maxRecDepth 100000 in
theorem wfield_not (x n : Nat) (hx : x < 256) (hn : n < 9) (h1 : 1 ≤ n) (hxn : x < 2 ^ n) (w : World) : Calls Tryz.prog 121 #[.int .u64 (18446744073709551615 - (x : Int)), .int .i64 0, .int .i64 (n : Nat)] w fun e w' => e = .returned (.int .u64 (2 ^ n - 1 - x : Nat)) ∧ ∃ m, w' = w.drewN m := by
  have k1 : ¬ (n : Int) < 1 := by omega
  have k5 : ¬ (64 : Int) ≤ (n : Int) := by omega
  have k6 : (0 : Int) ≤ (n : Int) := by omega
  go_enter Tryz.func121, Tryz.ntmps121
  go_wp2
  go_quiet ((go_at_call 166; exact quiet_mine (mask_any n (by omega) _)))
  go_wp2
  go_ret
  exact ⟨ret_u64 (not_key x hx n hn hxn), _, rfl⟩
theorem wfield_not' (x n : Nat) (X : Int) (hx : x < 256) (hn : n < 9) (h1 : 1 ≤ n) (hxn : x < 2 ^ n) (hX : Hid (X = 18446744073709551615 - (x : Int))) (w : World) : Calls Tryz.prog 121 #[.int .u64 X, .int .i64 0, .int .i64 (n : Nat)] w fun e w' => e = .returned (.int .u64 (2 ^ n - 1 - x : Nat)) ∧ ∃ m, w' = w.drewN m := by
  rw [hX.out]; exact wfield_not x n hx hn h1 hxn w
theorem xor_key : ∀ x : Nat, x < 256 → bits .xor .u64 (if IntKind.u64.signed = true then -1 else IntKind.u64.max) (x : Int) = 18446744073709551615 - (x : Int) := by decide +kernel
theorem xor_hid (x : Nat) (hx : x < 256) : Hid (bits .xor .u64 (if IntKind.u64.signed = true then -1 else IntKind.u64.max) (x : Int) = 18446744073709551615 - (x : Int)) := Lib.hid (xor_key x hx)
def ChC (w : World) (C D z : Nat) : Prop := ∃ G1 cap1 G0 cap0, C < w.heap.size ∧ G1 < w.heap.size ∧ G0 < w.heap.size ∧ w.cell? ⟨C, 0, none⟩ = some (.pointer (some ⟨D, 0, none⟩)) ∧ w.cell? ⟨C, 1, none⟩ = some (.slice (some ⟨G1, 0, none⟩) 1 cap1) ∧ w.cell? ⟨C, 2, none⟩ = some (.int .i64 2) ∧ w.cell? ⟨C, 3, none⟩ = some (.slice (some ⟨G0, 0, none⟩) 1 cap0) ∧ w.cell? ⟨C, 4, none⟩ = some (.int .i64 (z : Nat)) ∧ w.cell? ⟨G1, 0, none⟩ = some (.int .i64 0) ∧ w.cell? ⟨G0, 0, none⟩ = some (.int .i64 0)
def Ch (w : World) (C b z : Nat) : Prop := ∃ D, Dr w D b ∧ ChC w C D z
theorem Ch.below {w w' : World} {C b z : Nat} (h : Ch w C b z) (hb : Below w.heap.size w w') : Ch w' C b z := by
  obtain ⟨D, hD, G1, cap1, G0, cap0, a1, a2, a3, c0, c1, c2, c3, c4, g1, g0⟩ := h
  exact ⟨D, hD.below hb, G1, cap1, G0, cap0, Nat.lt_of_lt_of_le a1 hb.size, Nat.lt_of_lt_of_le a2 hb.size, Nat.lt_of_lt_of_le a3 hb.size, (hb.cell (p := ⟨C, 0, none⟩) a1).trans c0, (hb.cell (p := ⟨C, 1, none⟩) a1).trans c1, (hb.cell (p := ⟨C, 2, none⟩) a1).trans c2, (hb.cell (p := ⟨C, 3, none⟩) a1).trans c3, (hb.cell (p := ⟨C, 4, none⟩) a1).trans c4, (hb.cell (p := ⟨G1, 0, none⟩) a2).trans g1, (hb.cell (p := ⟨G0, 0, none⟩) a3).trans g0⟩
abbrev cnewW (w1 : World) (D : Nat) : World := w1.alloc (.cells #[.pointer (some ⟨D, 0, none⟩), .slice none 0 0, .int .i64 0, .slice none 0 0, .int .i64 0] 232)
structure N2 (w1 : World) (D : Nat) (W : World) : Prop where
  bel : Below w1.heap.size w1 W
  hC : w1.heap.size < W.heap.size
  d0 : W.cell? ⟨w1.heap.size, 0, none⟩ = some (.pointer (some ⟨D, 0, none⟩))
  one : ∃ G1 cap1, W.cell? ⟨w1.heap.size, 1, none⟩ = some (.slice (some ⟨G1, 0, none⟩) 1 cap1) ∧ W.cell? ⟨G1, 0, none⟩ = some (.int .i64 0) ∧ w1.heap.size < G1 ∧ G1 < W.heap.size
  d2 : W.cell? ⟨w1.heap.size, 2, none⟩ = some (.int .i64 2)
  d3 : W.cell? ⟨w1.heap.size, 3, none⟩ = some (.slice none 0 0)
  d4 : W.cell? ⟨w1.heap.size, 4, none⟩ = some (.int .i64 0)
  f3 : W.frozen? ⟨w1.heap.size, 3, none⟩ = false
  f4 : W.frozen? ⟨w1.heap.size, 4, none⟩ = false
theorem N2.drew {w1 W : World} {D : Nat} (h : N2 w1 D W) : N2 w1 D W.drew := ⟨h.bel.drew, h.hC, h.d0, h.one, h.d2, h.d3, h.d4, h.f3, h.f4⟩
theorem N2.drewN {w1 W : World} {D : Nat} (h : N2 w1 D W) (m : Nat) : N2 w1 D (W.drewN m) := by
  obtain ⟨G1, cap1, o1, o2, o3, o4⟩ := h.one
  exact ⟨below_drewN h.bel m, h.hC, by simpa using h.d0, ⟨G1, cap1, by simpa using o1, by simpa using o2, o3, o4⟩, by simpa using h.d2, by simpa using h.d3, by simpa using h.d4, by simpa using h.f3, by simpa using h.f4⟩
theorem note_fst (w1 : World) (D x : Nat) (hx : x < 256) (hp : pop x = 2) : Calls Tryz.prog 128 #[.pointer (some ⟨w1.heap.size, 1, none⟩), .int .u64 (x : Nat), .int .i64 0] (cnewW w1 D) fun e w2 => e = .returned (.tuple #[]) ∧ N2 w1 D w2 := by
  refine (note_any w1.heap.size 1 x 2 _ hx hp (by omega) (by omega) (by simp [go_sem]) (by simp [go_sem]) (by simp [go_sem]) (by simp [go_sem]) (by simp)).mono ?_
  rintro e w2 ⟨rfl, G1, cap1, a1, a2, a3, a4, a5, hg, hoth⟩
  refine ⟨rfl, ((Below.refl _ w1).alloc (Nat.le_refl _) _).grown hg (by simp) (by intro k hk; injection hk with hk; omega), ?_, ?_, ⟨G1, cap1, a1, a3, ?_, a5⟩, a2, ?_, ?_, ?_, ?_⟩
  · have := hg.size; simp at this; omega
  · exact (hoth 0 (by omega) (by omega)).1.trans (by simp [go_sem])
  · simp at a4; omega
  · exact (hoth 3 (by omega) (by omega)).1.trans (by simp [go_sem])
  · exact (hoth 4 (by omega) (by omega)).1.trans (by simp [go_sem])
  · exact (hoth 3 (by omega) (by omega)).2.trans (by simp [go_sem])
  · exact (hoth 4 (by omega) (by omega)).2.trans (by simp [go_sem])
theorem note_snd (w1 W : World) (D y z : Nat) (hy : y < 256) (hp : pop y = z) (hz : 1 ≤ z) (hz8 : z ≤ 8) (HN : N2 w1 D W) : Calls Tryz.prog 128 #[.pointer (some ⟨w1.heap.size, 3, none⟩), .int .u64 (y : Nat), .int .i64 0] W fun e w4 => e = .returned (.tuple #[]) ∧ Below w1.heap.size w1 w4 ∧ ChC w4 w1.heap.size D z := by
  refine (note_any w1.heap.size 3 y z _ hy hp hz hz8 HN.d3 HN.d4 HN.f3 HN.f4 HN.hC).mono ?_
  rintro e w4 ⟨rfl, G0, cap0, b1, b2, b3, b4, b5, hg, hoth⟩
  obtain ⟨G1, cap1, o1, o2, o3, o4⟩ := HN.one
  have hs := hg.size
  have hC := HN.hC
  exact ⟨rfl, HN.bel.grown hg HN.bel.size (by intro k hk; injection hk with hk; omega), G1, cap1, G0, cap0, by omega, by omega, b5, by rw [(hoth 0 (by omega) (by omega)).1]; exact HN.d0, by rw [(hoth 1 (by omega) (by omega)).1]; exact o1, by rw [(hoth 2 (by omega) (by omega)).1]; exact HN.d2, b1, b2, by rw [World.grownBy.cell_far hg ⟨G1, 0, none⟩ o4 (by intro e; injection e with e; simp at e; omega)]; exact o2, b3⟩
set_option maxRecDepth 100000 in
set_option maxHeartbeats 1000000 in
theorem cnew_any (b x n z : Nat) (w : World) (h : Rw w b x n) (hx : x < 256) (hn : n < 9) (hn3 : 3 ≤ n) (hp : pop x = 2) (hxn : x < 2 ^ n) (hz : z + 2 = n) : Calls Tryz.prog 84 #[.pointer (some ⟨b, 0, none⟩)] w fun e w' => ∃ C, e = .returned (.pointer (some ⟨C, 0, none⟩)) ∧ Below w.heap.size w w' ∧ Ch w' C b z := by
  obtain ⟨y, hy⟩ : ∃ y, 2 ^ n - 1 - x = y := ⟨_, rfl⟩
  have hpy : pop y = z := by rw [← hy, pop_not x hx n hn hxn hp]; omega
  have hy2 : y < 256 := by
    have : 2 ^ n ≤ 2 ^ 8 := Nat.pow_le_pow_right (by decide) (by omega)
    omega
  have hwf := fun X (hX : Hid (X = 18446744073709551615 - (x : Int))) w => wfield_not' x n X hx hn (by omega) hxn hX w
  rw [hy] at hwf
  clear hxn hy
  go_enter Tryz.func84, Tryz.ntmps84
  go_wp2_with fail
  refine (rnew_any b x n _ h hx hn hp).mono ?_; rintro e w1 ⟨rfl, hb1, hD1⟩
  have HB1 := Lib.hid hb1
  have HD1 := Lib.hid hD1
  clear hb1 hD1
  go_wp2_with fail
  go_loopg [4, 5] 1 (fun g a v wr => (g = 1 ∧ a = .int .i64 0 ∧ wr = cnewW w1 w.heap.size) ∨ (g = 0 ∧ a = .int .i64 64 ∧ Hid (Below w1.heap.size w1 wr ∧ ChC wr w1.heap.size w.heap.size z)))
  case atStart => exact .inl ⟨rfl, rfl, rfl⟩
  case round =>
    rcases hrel with ⟨rfl, rfl, rfl⟩ | ⟨rfl, rfl, HR⟩
    · have hlt : (0 : Int) < (n : Int) := by omega
      have hR1 : Rw (cnewW w1 w.heap.size) b x n := (h.below HB1.out).alloc _
      go_wp2_with (first | (go_at_call 122; refine (rlen_any b x n _ hR1).mono ?_; rintro e w2 ⟨rfl, rfl⟩) | (go_at_call 127; refine (word0_any b x n _ hR1).mono ?_; rintro e w2 ⟨rfl, rfl⟩))
      refine (note_fst w1 w.heap.size x hx hp).mono ?_; rintro e w2 ⟨rfl, hn2⟩
      have HN := Lib.hid hn2
      have HNd := Lib.hid hn2.drew
      have HQ2 := Lib.hid (h.below (HB1.out.trans (hn2.bel.mono HB1.out.size)))
      have HQ3 := Lib.hid ((Hid.out HQ2).below ((Below.refl _ w2).drew))
      have qn : IntKind.i64.wrap (n : Int) = (n : Int) := IntWalk.i64_in _ (by omega)
      clear hn2
      go_wp2_with fail
      go_region_law ((first | (go_simp; go_at_call 122; refine (rlen_any b x n _ (Hid.out HQ3)).mono ?_; rintro e w9 ⟨rfl, rfl⟩) | (go_simp; go_at_call 121; refine (hwf _ (xor_hid x hx) _).mono ?_; rintro e w3 ⟨rfl, m3, rfl⟩) | (go_simp; go_at_call 128; refine (note_snd w1 _ w.heap.size y z hy2 hpy (by omega) (by omega) ((Hid.out HN).drewN _)).mono ?_; rintro e w4 ⟨rfl, hr⟩; have HR := Lib.hid hr; clear hr)))
      all_goals
        go_wp2_with fail
        go_roundg 0
        case measure => go_light; omega
        case rel => go_light; exact .inr ⟨rfl, by go_num, HR⟩
    · have hlt : ¬ (64 : Int) < (n : Int) := by omega
      have hR1 := h.below (HB1.out.trans (HR.out.1.mono HB1.out.size))
      go_wp2_with (first | (go_at_call 122; refine (rlen_any b x n _ hR1).mono ?_; rintro e w2 ⟨rfl, rfl⟩))
      go_ret
      exact ⟨_, rfl, HB1.out.trans (HR.out.1.mono HB1.out.size), _, HD1.out.below HR.out.1, HR.out.2⟩
end Go.Proofs.YtjelneeeijjpiaaGreatDoor
end
