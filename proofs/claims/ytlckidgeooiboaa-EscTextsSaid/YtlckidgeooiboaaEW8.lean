/- The walk of the reference's Scalars. -/
import Derived.Test.YtlckidgeooiboaaEW7
import Derived.Test.YtlckidgeooiboaaUW8
import Derived.Test.YtlckidgeooiboaaEL1
import Derived.Deep.DeepAppendWide
import Derived.Deep.QuietTactic
import Derived.BigQuiet
import Derived.IntWalk
namespace Go.Proofs.Ytlckidgeooiboaa
open Go.RowKit Go.Proofs.Lw Go.Proofs.Le
set_option linter.unusedVariables false
theorem info3 : (Try.prog.info? 3).map (fun i => (i.zero, i.size, i.bytes)) = some (some (.int .i64 0), 1, 8) := by kernel_rfl
def ints (L : List Int) : List Value := L.map fun c => Value.int .i64 c
theorem cell_one_new (w : World) (v : Value) (t : TypeId) : ∀ j u, [v][j]? = some u → (w.alloc (.cells #[v] t)).cell? ((⟨w.heap.size, 0, none⟩ : Addr).add j) = some u := by
  intro j u hj
  rw [Addr.add_lit, World.cell?_alloc_at _ _ _ _ rfl, Nat.zero_add]
  simpa using hj
/-- what Scalars answers -/
def ScalarsOut (w : World) (R : Option (List Int)) (e : Ending) (w' : World) : Prop :=
  (R = none → e = .returned (.tuple #[.slice none 0 0, .bool false]) ∧ Below w.heap.size w w') ∧
  (∀ L, R = some L → ∃ v, e = .returned (.tuple #[v, .bool true]) ∧ w'.ownsRow w.heap.size 3 1 v L.length (ints L) ∧ Below w.heap.size w w')
theorem ScalarsOut.no {w w' : World} {R : Option (List Int)} {e : Ending} (h : R = none) (he : e = .returned (.tuple #[.slice none 0 0, .bool false])) (hb : Below w.heap.size w w') : ScalarsOut w R e w' :=
  ⟨fun _ => ⟨he, hb⟩, fun L h' => by rw [h] at h'; exact absurd h' (by simp)⟩
theorem body_cons (s : ByteArray) (e k : Nat) (h : k < e) (he : e ≤ s.size) : (s.data.toList.take e).drop k = (s[k]'(by omega)) :: (s.data.toList.take e).drop (k + 1) := by
  have hl : s.data.toList.length = s.size := (Lib.size_eq s).symm
  rw [List.drop_eq_getElem_cons (by rw [List.length_take]; omega)]
  congr 1
  rw [List.getElem_take]; rfl
theorem rscal_at (s : ByteArray) (k e : Nat) (c : Int) (m : Nat) (w : World) (h : Hid (uscal ((s.data.toList.take e).drop k) = (c, m))) :
    Calls Try.prog 28 #[.string (s.extract k e)] w fun r w' => r = .returned (.tuple #[.int .i64 c, .int .i64 m]) ∧ Below w.heap.size w w' := by
  have := rscalar_any (s.extract k e) w
  rw [Lib.extract_data, ← List.drop_take, h.out] at this
  exact this
theorem runit_at (s : ByteArray) (e p : Nat) (q R : Int) (w : World) (hq : q = (p : Nat)) (hp : p ≤ 1000000) (hs : s.size ≤ 1000000) (hR : Hid (lowP ((s.data.toList.take e).drop p) = R)) :
    Calls Try.prog 33 #[.string (s.extract 0 e), .int .i64 q] w fun r w' => r = .returned (.int .i64 R) ∧ w = w' := by
  subst hq
  refine runit_any (s.extract 0 e) p R w hp (by simp; omega) (Lib.hid ?_)
  rw [Lib.extract_data, List.drop_zero, Nat.sub_zero]; exact hR.out
theorem slice_run (s : ByteArray) (k e : Nat) (h : k ≤ e) (he : e ≤ s.size) (w : World) :
    (Instr.slice 9 (.string s) (some (.int .i64 (k : Int))) (some (.int .i64 (e : Int))) none).run Try.prog w = .ok (.string (s.extract k e)) w := by
  rw [run_slice_string w 9 s .i64 .i64 (k : Int) (e : Int) Try.underlying9 (by omega) (by omega) (by omega)]
  rw [show ((k : Int)).toNat = k from rfl, show ((e : Int)).toNat = e from rfl]
/-- what stands through the loop -/
def SI (w wr : World) (v : Value) (acc : List Int) : Prop := wr.ownsRow w.heap.size 3 1 v acc.length (ints acc) ∧ Below w.heap.size w wr
theorem SI.below {w w1 w2 : World} {v : Value} {acc : List Int} (h : SI w w1 v acc) (hb : Below w1.heap.size w1 w2) : SI w w2 v acc :=
  ⟨h.1.kept (row := Option.none) ⟨hb.os, hb.tape, hb.output, hb.size, fun k hk _ => hb.block k hk⟩ (by
    cases hv : v.ownBlock with
    | none => exact .inl rfl
    | some k => exact .inr (fun e => by injection e)), h.2.trans (hb.mono h.2.size)⟩
theorem SI.push {w w1 w6 : World} {v v6 : Value} {acc : List Int} {c : Int} {o : Obj} (h : SI w w1 v acc) (ho : w6.ownsRow w.heap.size 3 1 v6 (acc.length + 1) (ints acc ++ [.int .i64 c])) (hg : (w1.alloc o).grownBy w6 v.ownBlock) : SI w w6 v6 (acc ++ [c]) := by
  refine ⟨?_, (h.2.alloc h.2.size o).grown hg (by have := h.2.size; simp; omega) (fun j hj => (h.1.lt j hj).1)⟩
  have e : ints (acc ++ [c]) = ints acc ++ [.int .i64 c] := by simp [ints]
  rw [e, List.length_append]; exact ho
theorem SI.drewN {w wr : World} {v : Value} {acc : List Int} (h : SI w wr v acc) (n : Nat) : SI w (wr.drewN n) v acc := h.below ⟨(Below.refl wr.heap.size wr).os, (Below.refl wr.heap.size wr).tape, (Below.refl wr.heap.size wr).output, (Below.refl wr.heap.size wr).size, (Below.refl wr.heap.size wr).block⟩
theorem idx_run (s : ByteArray) (k : Nat) (h : k < s.size) (i : Int) (hi : i = (k : Int)) (w : World) : (Instr.index 9 (.string s) (.int .i64 i)).run Try.prog w = .ok (.int .u8 ((s[k]'h).toNat : Int)) w := by
  subst hi
  rw [run_index_string w 9 s .i64 (k : Int) Try.underlying9, dif_pos (by omega)]
  rfl
/-- the place of a byte among the signs; 8 -/
def kpos8 (c : Nat) : Nat := if c = 34 then 0 else if c = 92 then 1 else if c = 47 then 2 else if c = 98 then 3 else if c = 102 then 4 else if c = 110 then 5 else if c = 114 then 6 else if c = 116 then 7 else 8
abbrev signS8 : ByteArray := ⟨#[34, 92, 47, 98, 102, 110, 114, 116]⟩
abbrev meanS8 : ByteArray := ⟨#[34, 92, 47, 8, 12, 10, 13, 9]⟩
set_option maxRecDepth 100000 in
theorem sign8_key : ∀ j : Fin 8, (signS8[j.1]'j.2).toNat = [34, 92, 47, 98, 102, 110, 114, 116].getD j.1 0 := by decide
set_option maxRecDepth 100000 in
theorem mean8_key : ∀ j : Fin 8, (meanS8[j.1]'j.2).toNat = [34, 92, 47, 8, 12, 10, 13, 9].getD j.1 0 := by decide
theorem kpos8_le (c : Nat) : kpos8 c ≤ 8 := by unfold kpos8; (repeat' split) <;> omega
theorem kpos8_lt (c : Nat) (j : Nat) (hj : j < 8) (h : j < kpos8 c) : (((signS8[j]'hj).toNat : Int) != (c : Int)) = true := by
  rw [bne_iff_ne, sign8_key ⟨j, hj⟩]
  unfold kpos8 at h
  have : j = 0 ∨ j = 1 ∨ j = 2 ∨ j = 3 ∨ j = 4 ∨ j = 5 ∨ j = 6 ∨ j = 7 := by omega
  rcases this with rfl | rfl | rfl | rfl | rfl | rfl | rfl | rfl
  all_goals (simp only [List.getD_cons_zero, List.getD_cons_succ]; revert h; (repeat' split) <;> omega)
theorem kpos8_at (c : Nat) (j : Nat) (hj : j < 8) (h : j = kpos8 c) : (((signS8[j]'hj).toNat : Int) != (c : Int)) = false := by
  rw [bne_eq_false_iff_eq, sign8_key ⟨j, hj⟩]
  unfold kpos8 at h
  have : j = 0 ∨ j = 1 ∨ j = 2 ∨ j = 3 ∨ j = 4 ∨ j = 5 ∨ j = 6 ∨ j = 7 := by omega
  rcases this with rfl | rfl | rfl | rfl | rfl | rfl | rfl | rfl
  all_goals (simp only [List.getD_cons_zero, List.getD_cons_succ]; revert h; (repeat' split) <;> omega)
theorem kpos8_no (c : Nat) (h : kpos8 c = 8) : simpleP c = -1 := by
  unfold kpos8 at h
  unfold simpleP
  revert h; (repeat' split) <;> omega
theorem kpos8_yes (c : Nat) (j : Nat) (hj : j < 8) (h : kpos8 c = j) : simpleP c ≠ -1 ∧ simpleP c = ((meanS8[j]'hj).toNat : Int) := by
  rw [mean8_key ⟨j, hj⟩]
  unfold kpos8 at h
  have : j = 0 ∨ j = 1 ∨ j = 2 ∨ j = 3 ∨ j = 4 ∨ j = 5 ∨ j = 6 ∨ j = 7 := by omega
  have hc : (j = 0 ∧ c = 34) ∨ (j = 1 ∧ c = 92) ∨ (j = 2 ∧ c = 47) ∨ (j = 3 ∧ c = 98) ∨ (j = 4 ∧ c = 102) ∨ (j = 5 ∧ c = 110) ∨ (j = 6 ∧ c = 114) ∨ (j = 7 ∧ c = 116) := by
    revert h; (repeat' split) <;> omega
  rcases hc with ⟨rfl, rfl⟩ | ⟨rfl, rfl⟩ | ⟨rfl, rfl⟩ | ⟨rfl, rfl⟩ | ⟨rfl, rfl⟩ | ⟨rfl, rfl⟩ | ⟨rfl, rfl⟩ | ⟨rfl, rfl⟩
  all_goals exact ⟨by decide, rfl⟩
set_option maxRecDepth 100000 in
set_option maxHeartbeats 4000000 in
theorem rscalars_any (s : ByteArray) (e : Nat) (w : World) (hs : s.size ≤ 1000) (he : (s.size : Int) = e + 1) (h1 : 1 ≤ e) (h0 : ((s[0]'(by omega)).toNat : Int) = 34) (hl : ((s[e]'(by omega)).toNat : Int) = 34) (R : Option (List Int)) (hR : Hid (rA (e + 2) ((s.data.toList.take e).drop 1) [] = R)) :
    Calls Try.prog 23 #[.string s] w fun r w' => ScalarsOut w R r w' := by
  obtain ⟨i0, hi0, hz0, hz1, hz2⟩ := info_parts info3
  have k0 : (s.size : Int) - 1 = (e : Int) := by omega
  have hbl : (((s[e]'(by omega)).toNat : Int) != 34) = false := by rw [bne_eq_false_iff_eq]; exact hl
  have hb0 : (((s[0]'(by omega)).toNat : Int) != 34) = false := by rw [bne_eq_false_iff_eq]; exact h0
  have k1 : ¬ (s.size : Int) < 2 := by omega
  have k2 : (e : Int) < (s.size : Int) := by omega
  have k3 : (0 : Int) ≤ (e : Int) := by omega
  have k4 : (e : Int) ≤ (s.size : Int) := by omega
  clear h0 hl
  go_enter Try.func23, Try.ntmps23
  go_wp2_with fail
  go_loopg [4, 6] e (fun g v i wr => ∃ (k f : Nat) (acc : List Int), 1 ≤ k ∧ k ≤ e ∧ g = e + 1 - k ∧ i = .int .i64 k ∧ acc.length ≤ k ∧ Hid (e < k + f) ∧ Hid (rA f ((s.data.toList.take e).drop k) acc = R) ∧ Hid (SI w wr v acc))
  case atStart => exact ⟨1, e + 2, [], by omega, by omega, by omega, rfl, by simp, Lib.hid (by omega), hR, Lib.hid ⟨World.ownsRow_nil _ _ _ _, Below.refl _ _⟩⟩
  case round =>
    obtain ⟨k, f, acc, hk1, hk, rfl, rfl, hac, hf, hA, hS⟩ := hrel
    obtain ⟨f, rfl⟩ : ∃ f', f = f' + 1 := ⟨f - 1, by have := hf.out; omega⟩
    by_cases hlt : k < e
    · have hdk : decide ((k : Int) < (e : Int)) = true := by rw [decide_eq_true_eq]; omega
      have hki : (k : Int) < (s.size : Int) := by omega
      have hke : (k : Int) ≤ (e : Int) := by omega
      have hsl := slice_run s k e (by omega) (by omega)
      have hX := Lib.hid (body_cons s e k hlt (by omega))
      obtain ⟨c, hc⟩ : ∃ c, s[k]'(by omega) = c := ⟨_, rfl⟩
      rw [hc] at hX
      have hcu := u8_le c
      by_cases hlow : c = 34 ∨ c < 32
      · have hRn : Hid (R = none) := Lib.hid (by rw [← hA.out, hX.out]; exact rA_low f c _ acc hlow)
        have hb : (c.toNat : Int) < 32 ∨ (¬ (c.toNat : Int) < 32 ∧ ((c.toNat : Int) == 34) = true) := by
          by_cases h' : (c.toNat : Int) < 32
          · left; exact h'
          · right; exact ⟨h', by rw [beq_iff_eq]; exact (u8_int (n := 34) (by decide)).2 (hlow.resolve_right (fun h => h' ((u8_lt32 c).1 h)))⟩
        clear hlow
        rcases hb with hb | ⟨hb, hb2⟩
        all_goals
          go_wp2_with fail
          go_ret2
          exact ScalarsOut.no hRn.out rfl hS.out.2
      · have hb32 : ¬ (c.toNat : Int) < 32 := fun h => hlow (.inr ((u8_lt32 c).2 h))
        have hb34 : ((c.toNat : Int) == 34) = false := by rw [beq_eq_false_iff_ne]; exact fun h => hlow (.inl ((u8_int (n := 34) (by decide)).1 h))
        by_cases h92 : c = 92
        case neg =>
          have hb92 : ((c.toNat : Int) != 92) = true := by rw [bne_iff_ne]; exact fun h => h92 ((u8_int (n := 92) (by decide)).1 h)
          obtain ⟨x, m, hxm⟩ : ∃ x m, uscal ((s.data.toList.take e).drop k) = (x, m) := ⟨_, _, rfl⟩
          have HXM := Lib.hid hxm
          have hstep : Hid (rA (f + 1) ((s.data.toList.take e).drop k) acc = if m = 0 then none else rA f ((s.data.toList.take e).drop (k + m)) (acc ++ [x])) := Lib.hid (by
            rw [← List.drop_drop]
            rw [hX.out] at hxm ⊢
            exact rA_raw f c _ acc hlow h92 x m hxm)
          have hle := uscal_le ((s.data.toList.take e).drop k)
          rw [hxm, List.length_drop, List.length_take] at hle
          simp only at hle
          by_cases hm : m = 0
          · subst hm
            have hRn : Hid (R = none) := Lib.hid (by rw [← hA.out, hstep.out, if_pos rfl])
            clear hxm hlow h92
            go_wp2_with fail
            refine (rscal_at s k e x 0 _ HXM).mono ?_; rintro r w2 ⟨rfl, hb⟩
            have hS2 := Lib.hid (hS.out.below hb)
            clear hb
            go_wp2_with fail
            go_ret2
            exact ScalarsOut.no hRn.out rfl hS2.out.2
          · have hA2 : Hid (rA f ((s.data.toList.take e).drop (k + m)) (acc ++ [x]) = R) := Lib.hid (by rw [← hA.out, hstep.out, if_neg hm])
            have hmb : ((m : Int) == 0) = false := by rw [beq_eq_false_iff_ne]; omega
            have hb1 : acc.length + 1 ≤ maxLen := by unfold maxLen; omega
            have hb2 : ((acc.length + 1) + (acc.length + 1) / 4 + 192) * 8 ≤ 281474976710656 := by omega
            have hf2 : Hid (e < k + m + f) := Lib.hid (by have := hf.out; omega)
            have hkm : k + m ≤ e := by have := Lib.size_eq s; omega
            clear hxm hlow h92
            go_wp2_with fail
            refine (rscal_at s k e x m _ HXM).mono ?_; rintro r w2 ⟨rfl, hb⟩
            have hS2 := Lib.hid (hS.out.below hb)
            have hb3 : w.heap.size ≤ (w2.alloc (.cells #[.int .i64 x] 3)).heap.size := by have := hS2.out.2.size; simp; omega
            clear hb
            go_wp2_with (at_builtin; refine wpList_append_own_wide _ rfl _ _ 46 rfl w.heap.size 3 i0 (.int .i64 0) 1 8 Try.underlying46 hi0 hz0 hz1 hz2 rfl (by decide) _ _ _ rfl (hS2.out.1.alloc _) ⟨w2.heap.size, 0, none⟩ 1 1 [.int .i64 x] rfl rfl (cell_one_new _ _ _) (by intro u hu; simp at hu; subst hu; rfl) hb1 hb2 hb3 ?_; rintro v6 w6 ho6 hg6 _; have hS6 := Lib.hid (hS2.out.push ho6 hg6); clear ho6 hg6)
            go_roundg (e + 1 - (k + m))
            case measure => go_light; omega
            case rel => go_light; exact ⟨k + m, f, _, by omega, hkm, rfl, by go_num, by simp; omega, hf2, hA2, hS6⟩
        case pos =>
        have hb92 : ((c.toNat : Int) != 92) = false := by rw [bne_eq_false_iff_eq]; exact (u8_int (n := 92) (by decide)).2 h92
        have HC := Lib.hid h92
        obtain ⟨u, hu⟩ : ∃ u, lowP ((s.data.toList.take e).drop k) = u := ⟨_, rfl⟩
        obtain ⟨v0, hv⟩ : ∃ v0, lowP ((s.data.toList.take e).drop (k + 6)) = v0 := ⟨_, rfl⟩
        have HU := Lib.hid hu
        have HV := Lib.hid hv
        have hub := lowP_bd ((s.data.toList.take e).drop k)
        have hvb := lowP_bd ((s.data.toList.take e).drop (k + 6))
        rw [hu] at hub
        rw [hv] at hvb
        have hs0 := slice_run s 0 e (by omega) (by omega)
        have hb1 : acc.length + 1 ≤ maxLen := by unfold maxLen; omega
        have hb2 : ((acc.length + 1) + (acc.length + 1) / 4 + 192) * 8 ≤ 281474976710656 := by omega
        have hke2 : (e : Int) ≤ (s.size : Int) := by omega
        have hce : (0 : Int) ≤ (e : Int) := by omega
        clear h92 hlow
        by_cases hu0 : 0 ≤ u
        · have hk6 : k + 6 ≤ e := by
            rcases Nat.lt_or_ge ((s.data.toList.take e).drop k).length 6 with h | h
            · rw [lowP_short _ h] at hu; omega
            · rw [List.length_drop, List.length_take] at h; omega
          have hstep := Lib.hid (rA_unit f _ acc u v0 HU.out hu0 (by rw [List.drop_drop]; exact HV.out))
          rw [List.drop_drop, List.drop_drop, hA.out] at hstep
          have hf6 : Hid (e < k + 6 + f) := Lib.hid (by have := hf.out; omega)
          have hb3 : ∀ x : Int, w.heap.size ≤ (wr.alloc (.cells #[.int .i64 x] 3)).heap.size := fun x => by have := hS.out.2.size; simp; omega
          by_cases hr : u < 55296 ∨ 57343 < u
          · have hA2 : Hid (rA f ((s.data.toList.take e).drop (k + 6)) (acc ++ [u]) = R) := Lib.hid (by rw [hstep.out, if_pos hr])
            have hb3 := hb3 u
            have h6 := hk6
            clear hu hv
            rcases hr with hr | hr
            all_goals
             go_wp2_with fail
             refine (runit_at s e k _ u _ rfl (by omega) (by omega) HU).mono ?_; rintro r w2 ⟨rfl, rfl⟩
             go_wp2_with fail
             refine (runit_at s e (k + 6) _ v0 _ (by omega) (by omega) (by omega) HV).mono ?_; rintro r w2 ⟨rfl, rfl⟩
             go_wp2_with (at_builtin; refine wpList_append_own_wide _ rfl _ _ 46 rfl w.heap.size 3 i0 (.int .i64 0) 1 8 Try.underlying46 hi0 hz0 hz1 hz2 rfl (by decide) _ _ _ rfl (hS.out.1.alloc _) ⟨wr.heap.size, 0, none⟩ 1 1 [.int .i64 u] rfl rfl (cell_one_new _ _ _) (by intro u hu; simp at hu; subst hu; rfl) hb1 hb2 hb3 ?_; rintro v6 w6 ho6 hg6 _; have hS6 := Lib.hid (hS.out.push ho6 hg6); clear ho6 hg6)
             go_roundg (e + 1 - (k + 6))
             case measure => go_light; omega
             case rel => go_light; exact ⟨k + 6, f, _, by omega, h6, rfl, by go_num, by simp; omega, hf6, hA2, hS6⟩
          · rw [if_neg hr] at hstep
            have hr1 : 55296 ≤ u := by omega
            have hr2 : u ≤ 57343 := by omega
            by_cases hp : u < 56320 ∧ 56320 ≤ v0 ∧ v0 ≤ 57343
            · have hA2 : Hid (rA f ((s.data.toList.take e).drop (k + 12)) (acc ++ [(65536 + (u - 55296) * 1024 + v0 - 56320)]) = R) := Lib.hid (by rw [hstep.out, if_pos hp, show 65536 + (u - 55296) * 1024 + (v0 - 56320) = 65536 + (u - 55296) * 1024 + v0 - 56320 by omega])
              have h12 : k + 12 ≤ e := by
                rcases Nat.lt_or_ge ((s.data.toList.take e).drop (k + 6)).length 6 with h | h
                · rw [lowP_short _ h] at hv; omega
                · rw [List.length_drop, List.length_take] at h; omega
              have hf12 : Hid (e < k + 12 + f) := Lib.hid (by have := hf.out; omega)
              have hb3 := hb3 (65536 + (u - 55296) * 1024 + v0 - 56320)
              obtain ⟨hp1, hp2, hp3⟩ := hp
              have hp1' : u ≤ 56319 := by omega
              clear hu hv hr
              go_wp2_with fail
              refine (runit_at s e k _ u _ rfl (by omega) (by omega) HU).mono ?_; rintro r w2 ⟨rfl, rfl⟩
              go_wp2_with fail
              refine (runit_at s e (k + 6) _ v0 _ (by omega) (by omega) (by omega) HV).mono ?_; rintro r w2 ⟨rfl, rfl⟩
              go_wp2_with (at_builtin; refine wpList_append_own_wide _ rfl _ _ 46 rfl w.heap.size 3 i0 (.int .i64 0) 1 8 Try.underlying46 hi0 hz0 hz1 hz2 rfl (by decide) _ _ _ rfl (hS.out.1.alloc _) ⟨wr.heap.size, 0, none⟩ 1 1 [.int .i64 (65536 + (u - 55296) * 1024 + v0 - 56320)] rfl rfl (cell_one_new _ _ _) (by intro u hu; simp at hu; subst hu; rfl) hb1 hb2 hb3 ?_; rintro v6 w6 ho6 hg6 _; have hS6 := Lib.hid (hS.out.push ho6 hg6); clear ho6 hg6)
              go_roundg (e + 1 - (k + 12))
              case measure => go_light; omega
              case rel => go_light; exact ⟨k + 12, f, _, by omega, h12, rfl, by go_num, by simp; omega, hf12, hA2, hS6⟩
            · have hA2 : Hid (rA f ((s.data.toList.take e).drop (k + 6)) (acc ++ [65533]) = R) := Lib.hid (by rw [hstep.out, if_neg hp])
              have hb3 := hb3 65533
              have h6 := hk6
              have hp' : 56319 < u ∨ (u ≤ 56319 ∧ v0 < 56320) ∨ (u ≤ 56319 ∧ 56320 ≤ v0 ∧ 57343 < v0) := by omega
              clear hu hv hr hp
              rcases hp' with hp | ⟨hp, hp2⟩ | ⟨hp, hp2, hp3⟩
              all_goals
               go_wp2_with fail
               refine (runit_at s e k _ u _ rfl (by omega) (by omega) HU).mono ?_; rintro r w2 ⟨rfl, rfl⟩
               go_wp2_with fail
               refine (runit_at s e (k + 6) _ v0 _ (by omega) (by omega) (by omega) HV).mono ?_; rintro r w2 ⟨rfl, rfl⟩
               go_wp2_with (at_builtin; refine wpList_append_own_wide _ rfl _ _ 46 rfl w.heap.size 3 i0 (.int .i64 0) 1 8 Try.underlying46 hi0 hz0 hz1 hz2 rfl (by decide) _ _ _ rfl (hS.out.1.alloc _) ⟨wr.heap.size, 0, none⟩ 1 1 [.int .i64 65533] rfl rfl (cell_one_new _ _ _) (by intro u hu; simp at hu; subst hu; rfl) hb1 hb2 hb3 ?_; rintro v6 w6 ho6 hg6 _; have hS6 := Lib.hid (hS.out.push ho6 hg6); clear ho6 hg6)
               go_roundg (e + 1 - (k + 6))
               case measure => go_light; omega
               case rel => go_light; exact ⟨k + 6, f, _, by omega, h6, rfl, by go_num, by simp; omega, hf6, hA2, hS6⟩
        · have hu1 : lowP ((s.data.toList.take e).drop k) < 0 := by rw [hu]; omega
          have hun : ¬ 0 ≤ u := hu0
          by_cases hend : k + 1 < e
          · have hX2 := body_cons s e (k + 1) hend (by omega)
            obtain ⟨b, hb⟩ : ∃ b, s[k + 1]'(by omega) = b := ⟨_, rfl⟩
            rw [hb] at hX2
            have hne1 : ¬ (e : Int) ≤ (k : Int) + 1 := by omega
            have hned : decide ((e : Int) ≤ (k : Int) + 1) = false := by rw [decide_eq_false_iff_not]; omega
            have hki1 : (k : Int) + 1 < (s.size : Int) := by omega
            have hki2 : (0 : Int) ≤ (k : Int) + 1 := by omega
            have hkt : ((k : Int) + 1).toNat = k + 1 := by omega
            have hbu := u8_le b
            have hstep : Hid (R = if simpleP b.toNat = -1 then none else rA f ((s.data.toList.take e).drop (k + 2)) (acc ++ [simpleP b.toNat])) := Lib.hid (by
              have h := hX.out
              rw [hX2, HC.out] at h
              rw [h] at hu1
              have h2 := rA_sign f b _ acc hu1
              rw [← h, hA.out] at h2
              exact h2)
            obtain ⟨K, hKK⟩ : ∃ K, kpos8 b.toNat = K := ⟨_, rfl⟩
            have hKl := kpos8_le b.toNat
            rw [hKK] at hKl
            have HKK := Lib.hid hKK
            clear hu hv hu1 hX2 hKK
            have hW1 := IntWalk.i64_in ((k : Int) + 1) (by omega)
            go_wp2_with fail
            refine (runit_at s e k _ u _ rfl (by omega) (by omega) HU).mono ?_; rintro r w2 ⟨rfl, rfl⟩
            go_wp2_with fail
            go_loopg [14] (K + 1) (fun g v wx => ∃ j : Nat, j ≤ K ∧ g = K + 1 - j ∧ v = .int .i64 j ∧ Hid (SI w wx u4 acc))
            case atStart => exact ⟨0, Nat.zero_le _, rfl, rfl, hS⟩
            case round =>
              obtain ⟨j, hj, rfl, rfl, hS2⟩ := hrel
              clear hS
              by_cases hjK : j < K
              · have hXa := idx_run signS8 j (Nat.lt_of_lt_of_le hjK hKl) (j : Int) rfl
                have hXb := idx_run s (k + 1) (by omega) ((k : Int) + 1) (by omega)
                rw [hb] at hXb
                have hj8 : decide ((j : Int) < 8) = true := by rw [decide_eq_true_eq]; omega
                have hne := kpos8_lt b.toNat j (by omega) (by rw [HKK.out]; exact hjK)
                go_wp2_with fail
                go_quiet (fail)
                have hS3 := Lib.hid (hS2.out.drewN nq)
                go_wp2_with fail
                go_roundg (K + 1 - (j + 1))
                case measure => go_light; omega
                case rel => go_light; exact ⟨j + 1, by omega, rfl, by go_num, hS3⟩
              · obtain rfl : j = K := by omega
                clear hjK hj
                by_cases h8 : j < 8
                · have hXa := idx_run signS8 j h8 (j : Int) rfl
                  have hXb := idx_run s (k + 1) (by omega) ((k : Int) + 1) (by omega)
                  rw [hb] at hXb
                  have hj8i : (j : Int) < 8 := by omega
                  have hj8 : decide ((j : Int) < 8) = true := by rw [decide_eq_true_eq]; omega
                  have hj8b : ((j : Int) == 8) = false := by rw [beq_eq_false_iff_ne]; omega
                  have hne := kpos8_at b.toNat j h8 HKK.out.symm
                  have hmean := kpos8_yes b.toNat j h8 HKK.out
                  have hA2 : Hid (rA f ((s.data.toList.take e).drop (k + 2)) (acc ++ [((meanS8[j]'h8).toNat : Int)]) = R) := Lib.hid (by rw [hstep.out, if_neg hmean.1, hmean.2])
                  have hmu := u8_le (meanS8[j]'h8)
                  have h2 : k + 2 ≤ e := by omega
                  have hf2 : Hid (e < k + 2 + f) := Lib.hid (by have := hf.out; omega)
                  clear hmean
                  go_wp2_with fail
                  go_quiet (fail)
                  have hS3 := Lib.hid (hS2.out.drewN nq)
                  have hb3 : ∀ (x : Int) (W : World), Below w.heap.size w W → w.heap.size ≤ (W.alloc (.cells #[.int .i64 x] 3)).heap.size := fun x W h => by have := h.size; simp; omega
                  have hW2 : IntKind.i64.wrap ((meanS8[j]'h8).toNat : Int) = ((meanS8[j]'h8).toNat : Int) := IntWalk.i64_in _ (by omega)
                  have hW3 : wrap64 ((meanS8[j]'h8).toNat : Int) = ((meanS8[j]'h8).toNat : Int) := IntWalk.wrap64_in _ (by omega)
                  go_wp2_with (at_builtin; refine wpList_append_own_wide _ rfl _ _ 46 rfl w.heap.size 3 i0 (.int .i64 0) 1 8 Try.underlying46 hi0 hz0 hz1 hz2 rfl (by decide) _ _ _ rfl (hS3.out.1.alloc _) _ 1 1 [.int .i64 _] rfl rfl (cell_one_new _ _ _) (by intro u hu; simp at hu; subst hu; rfl) hb1 hb2 (hb3 _ _ hS3.out.2) ?_; rintro v6 w6 ho6 hg6 _; have hS6 := Lib.hid (hS3.out.push ho6 hg6); clear ho6 hg6)
                  go_roundg (e + 1 - (k + 2))
                  case measure => go_light; omega
                  case rel => go_light; exact ⟨k + 2, f, _, by omega, h2, rfl, by go_num, by simp; omega, hf2, hA2, by simpa only [hW2, hW3] using hS6⟩
                · have hj8 : decide ((j : Int) < 8) = false := by rw [decide_eq_false_iff_not]; omega
                  have hj8b : ((j : Int) == 8) = true := by rw [beq_iff_eq]; omega
                  have hRn : Hid (R = none) := Lib.hid (by rw [hstep.out, if_pos (kpos8_no _ (by have := HKK.out; omega))])
                  go_wp2_with fail
                  go_quiet (fail)
                  have hS3 := Lib.hid (hS2.out.drewN nq)
                  go_wp2_with fail
                  go_ret2
                  exact ScalarsOut.no hRn.out rfl hS3.out.2
          · have hRn : Hid (R = none) := Lib.hid (by
              have h := hX.out
              rw [HC.out, List.drop_of_length_le (i := k + 1) (by rw [List.length_take]; omega)] at h
              rw [← hA.out, h]; exact rA_one f acc)
            have hned : decide ((e : Int) ≤ (k : Int) + 1) = true := by rw [decide_eq_true_eq]; omega
            clear hu hv hu1
            have hW1 := IntWalk.i64_in ((k : Int) + 1) (by omega)
            go_wp2_with fail
            refine (runit_at s e k _ u _ rfl (by omega) (by omega) HU).mono ?_; rintro r w2 ⟨rfl, rfl⟩
            go_wp2_with fail
            go_loopg [14] 9 (fun g v wx => ∃ j : Nat, j ≤ 8 ∧ g = 9 - j ∧ v = .int .i64 j ∧ Hid (SI w wx u4 acc))
            case atStart => exact ⟨0, Nat.zero_le _, rfl, rfl, hS⟩
            case round =>
              obtain ⟨j, hj, rfl, rfl, hS2⟩ := hrel
              clear hS
              by_cases hjK : j < 8
              · have hj8 : decide ((j : Int) < 8) = true := by rw [decide_eq_true_eq]; omega
                go_wp2_with fail
                go_quiet (fail)
                have hS3 := Lib.hid (hS2.out.drewN nq)
                go_wp2_with fail
                go_roundg (9 - (j + 1))
                case measure => go_light; omega
                case rel => go_light; exact ⟨j + 1, by omega, rfl, by go_num, hS3⟩
              · have hj8 : decide ((j : Int) < 8) = false := by rw [decide_eq_false_iff_not]; omega
                have hj8b : ((j : Int) == 8) = true := by rw [beq_iff_eq]; omega
                go_wp2_with fail
                go_quiet (fail)
                have hS3 := Lib.hid (hS2.out.drewN nq)
                go_wp2_with fail
                go_ret2
                exact ScalarsOut.no hRn.out rfl hS3.out.2
    · have hdk : decide ((k : Int) < (e : Int)) = false := by rw [decide_eq_false_iff_not]; omega
      have hRs : Hid (R = some acc) := Lib.hid (by
        rw [← hA.out, List.drop_of_length_le (by rw [List.length_take]; omega)]; exact rA_nil f acc)
      go_wp2_with fail
      go_ret2
      exact ⟨fun h => by rw [hRs.out] at h; exact absurd h (by simp), fun L h => by rw [hRs.out] at h; injection h with h; subst h; exact ⟨_, rfl, hS.out.1, hS.out.2⟩⟩
end Go.Proofs.Ytlckidgeooiboaa
