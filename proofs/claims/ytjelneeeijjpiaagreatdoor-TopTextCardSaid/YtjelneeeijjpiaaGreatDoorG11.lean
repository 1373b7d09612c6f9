/- TopText: walks and plain laws, part 11: lemmas on what the functions that the law comes to compute. -/
import Derived.Test.YtjelneeeijjpiaaGreatDoorG10
import Derived.Test.YtjelneeeijjpiaaGreatDoorG04
import Derived.Shelf.Strings.SlTrimAscii
import Derived.Test.YtjelneeeijjpiaaGreatDoorG09
import Derived.Deep.AppendLies
import Derived.Deep.QuietTactic
import Derived.BigQuiet
import Derived.Deep.RegionLaw
import Derived.Deep.RegionHeld3
set_option linter.unusedVariables false
set_option linter.unusedSimpArgs false
section
namespace Go.Proofs.YtjelneeeijjpiaaGreatDoor
open Go.RowKit
theorem Low.drewN {w : World} {b n : Nat} (h : Low w b n) (m : Nat) : Low (w.drewN m) b n := h.below (below_drewN (Below.refl _ _) m)
set_option maxRecDepth 100000 in
set_option maxHeartbeats 1000000 in
theorem lfield_0 (b : Nat) (w : World) (h : R0 w b) : Calls Tryz.prog 173 #[.pointer (some ⟨b, 0, none⟩), .int .i64 0, .int .i64 0] w fun e w' => e = .returned (.tuple #[.int .u64 0, .int .i64 0]) ∧ ∃ m, w' = w.drewN m := by
  obtain ⟨a, c0, c1⟩ := h
  go_enter Tryz.func173, Tryz.ntmps173
  go_wp2
  go_ret2
  exact ⟨rfl, 0, rfl⟩
set_option maxRecDepth 100000 in
set_option maxHeartbeats 1000000 in
theorem lfield_any (b x n a m : Nat) (w : World) (h : Rw w b x n) (hx : x < 18446744073709551616) (hn : n < 33) (hm : 1 ≤ m) (ham : a + m ≤ n) : Calls Tryz.prog 173 #[.pointer (some ⟨b, 0, none⟩), .int .i64 (a : Nat), .int .i64 (m : Nat)] w fun e w' => e = .returned (.tuple #[.int .u64 (x / 2 ^ a % 2 ^ m : Nat), .int .i64 0]) ∧ ∃ m, w' = w.drewN m := by
  obtain ⟨g, cap, h1, h2, h3, h4, h5⟩ := h
  have k1 : ¬ (m : Int) < 0 := by omega
  have k2 : ¬ (64 : Int) < (m : Int) := by omega
  have k3 : ¬ (a : Int) < 0 := by omega
  have k4 : ¬ (n : Int) - (m : Int) < (a : Int) := by omega
  have k5 : ((m : Int) == 0) = false := by rw [beq_eq_false_iff_ne]; omega
  have hd : (a : Int).tdiv 64 = 0 := by rw [Int.tdiv_eq_ediv_of_nonneg (by omega)]; omega
  have hmm : (a : Int).tmod 64 = a := by rw [Int.tmod_eq_emod_of_nonneg (by omega)]; omega
  have k6 : ¬ (64 : Int) < (a : Int) + (m : Int) := by omega
  obtain ⟨v, hv⟩ : ∃ v, x / 2 ^ a % 2 ^ m = v := ⟨_, rfl⟩
  have hc := fun w => wfield_big x a m hx (by omega) (by omega) hm w
  rw [hv] at hc ⊢
  go_enter Tryz.func173, Tryz.ntmps173
  go_wp2_with (first | (go_at_call 121; refine (hc _).mono ?_; rintro e w1 ⟨rfl, m1, rfl⟩) | go_in)
  go_ret2
  exact ⟨rfl, _, rfl⟩
theorem low_any (b n i : Nat) (w : World) (h : Low w b n) (hn : 3 ≤ n) (hn2 : n < 1024) (hi : i < 2) : Calls Tryz.prog 173 #[.pointer (some ⟨b, 0, none⟩), .int .i64 (i * Wd n : Nat), .int .i64 (Wd n : Nat)] w fun e w' => e = .returned (.tuple #[.int .u64 (i * ((n - 1) % 2 ^ Wd n) : Nat), .int .i64 0]) ∧ ∃ m, w' = w.drewN m := by
  obtain ⟨q1, -, -⟩ := wd_key n hn2 hn
  rcases Nat.eq_zero_or_pos (Wd n) with h0 | h0
  · rw [h0]
    have := lfield_0 b w (h.1 h0)
    rw [show i * ((n - 1) % 2 ^ 0) = 0 by simp [Nat.mod_one], Nat.mul_zero]
    exact this
  · have hv : (n - 1) % 2 ^ Wd n * 2 ^ Wd n < 18446744073709551616 := by
      have h2 : (n - 1) % 2 ^ Wd n < 2 ^ Wd n := Nat.mod_lt _ (Nat.pow_pos (by decide))
      have h3 : 2 ^ Wd n ≤ 2 ^ 8 := Nat.pow_le_pow_right (by decide) (by omega)
      calc _ ≤ 2 ^ 8 * 2 ^ 8 := Nat.mul_le_mul (by omega) h3
        _ < _ := by decide
    have hw : i * Wd n + Wd n ≤ 2 * Wd n := by
      have : i * Wd n ≤ 1 * Wd n := Nat.mul_le_mul_right _ (by omega)
      omega
    refine (lfield_any b _ _ (i * Wd n) (Wd n) w (h.2 h0) hv (by omega) (by omega) hw).mono ?_
    rintro e w' ⟨rfl, h⟩
    refine ⟨?_, h⟩
    have : (n - 1) % 2 ^ Wd n * 2 ^ Wd n / 2 ^ (i * Wd n) % 2 ^ Wd n = i * ((n - 1) % 2 ^ Wd n) := by
      obtain rfl | rfl : i = 0 ∨ i = 1 := by omega
      · simp
      · rw [Nat.one_mul, Nat.mul_div_cancel _ (Nat.pow_pos (by decide)), Nat.mod_mod, Nat.one_mul]
    rw [this]
theorem quiet_ex {P : Program} {f : FuncId} {args : Array Value} {w : World} {n : Nat} {v : Value} (h : Calls P f args (w.drewN n) fun e w' => e = .returned v ∧ ∃ m, w' = (w.drewN n).drewN m) : Calls P f args (w.drewN n) fun e w'' => e = .returned v ∧ ∃ m, w'' = w.drewN m :=
  h.mono fun _ _ ⟨he, m, hm⟩ => ⟨he, n + m, by rw [hm, World.drewN_drewN]⟩
def mk (n i : Nat) : Nat := i * (n - 1)
theorem or_key : ∀ n : Nat, n < 1024 → 3 ≤ n → bits .or .i64 (((Hi n * 2 ^ Wd n : Nat)) : Int) (((n - 1) % 2 ^ Wd n : Nat) : Int) = ((n - 1 : Nat) : Int) ∧ Hi n * 2 ^ Wd n < 1024 ∧ (n - 1) % 2 ^ Wd n < 1024 := by decide +kernel
set_option maxRecDepth 100000 in
set_option maxHeartbeats 1000000 in
theorem sget_0 (p n : Nat) (hn : 3 ≤ n) (hn2 : n < 1024) (w : World) (h : Sq w p n) (hT : Tab w) : Calls Tryz.prog 178 #[.pointer (some ⟨p, 0, none⟩), .int .i64 0] w fun e w' => e = .returned (.int .i64 0) ∧ Below w.heap.size w w' := by
  obtain ⟨b, C, hb, a1, c0, c1, c2, c3, c4, hl, hr, hc⟩ := h
  obtain ⟨q1, q2, q3⟩ := wd_key n hn2 hn
  have hone := one_any C hb (Hi n) 0 0 (by unfold Hi; omega) q2 (.inl ⟨rfl, rfl⟩) _ w hc hr hT
  have hlow : ∀ W (hW : Below w.heap.size w W), Calls Tryz.prog 173 #[.pointer (some ⟨b, 0, none⟩), .int .i64 0, .int .i64 (Wd n : Nat)] W fun e w' => e = .returned (.tuple #[.int .u64 0, .int .i64 0]) ∧ ∃ m, w' = W.drewN m := fun W hW => by
    have := low_any b n 0 W (hl.below hW) hn hn2 (by omega)
    simpa using this
  obtain ⟨d, hd⟩ : ∃ d, Wd n = d := ⟨_, rfl⟩
  have k2 : ¬ (64 : Int) ≤ (d : Int) := by omega
  have k3 : ¬ (d : Int) < 0 := by omega
  rw [hd] at c2 hlow
  go_enter Tryz.func178, Tryz.ntmps178
  go_wp2_with fail
  refine hone.mono ?_; rintro e w1 ⟨rfl, hb1⟩
  have e0 := (hb1.cell (p := ⟨p, 2, none⟩) a1).trans c2
  have e1 := (hb1.cell (p := ⟨p, 3, none⟩) a1).trans c3
  have HB1 := Lib.hid hb1
  clear hb1
  go_wp2_with fail
  go_quiet ((go_at_call 173; exact quiet_ex (hlow _ (below_drewN HB1.out _))))
  have z0 : IntKind.i64.wrap 0 = 0 := by decide
  have z1 : bits .or .i64 0 0 = 0 := by decide
  go_wp2
  go_ret
  exact ⟨rfl, below_drewN HB1.out _⟩
set_option maxRecDepth 100000 in
set_option maxHeartbeats 1000000 in
theorem sget_1 (p n : Nat) (hn : 3 ≤ n) (hn2 : n < 1024) (w : World) (h : Sq w p n) (hT : Tab w) : Calls Tryz.prog 178 #[.pointer (some ⟨p, 0, none⟩), .int .i64 1] w fun e w' => e = .returned (.int .i64 (n - 1 : Nat)) ∧ Below w.heap.size w w' := by
  obtain ⟨b, C, hb, a1, c0, c1, c2, c3, c4, hl, hr, hc⟩ := h
  obtain ⟨q1, q2, q3⟩ := wd_key n hn2 hn
  obtain ⟨or1, or2, or3⟩ := or_key n hn2 hn
  have hone := one_any C hb (Hi n) 1 (1 + Hi n) (by unfold Hi; omega) q2 (.inr ⟨rfl, rfl⟩) _ w hc hr hT
  have hlow : ∀ W (hW : Below w.heap.size w W), Calls Tryz.prog 173 #[.pointer (some ⟨b, 0, none⟩), .int .i64 (Wd n : Nat), .int .i64 (Wd n : Nat)] W fun e w' => e = .returned (.tuple #[.int .u64 ((n - 1) % 2 ^ Wd n : Nat), .int .i64 0]) ∧ ∃ m, w' = W.drewN m := fun W hW => by
    have := low_any b n 1 W (hl.below hW) hn hn2 (by omega)
    rw [Nat.one_mul, Nat.one_mul] at this
    exact this
  have hH : Hi n ≤ 3 := q3
  obtain ⟨d, hd⟩ : ∃ d, Wd n = d := ⟨_, rfl⟩
  obtain ⟨v, hv⟩ : ∃ v, (n - 1) % 2 ^ Wd n = v := ⟨_, rfl⟩
  obtain ⟨q, hq⟩ : ∃ q, Hi n = q := ⟨_, rfl⟩
  obtain ⟨u, hu⟩ : ∃ u, Hi n * 2 ^ Wd n = u := ⟨_, rfl⟩
  obtain ⟨t, ht⟩ : ∃ t, 1 + Hi n = t := ⟨_, rfl⟩
  obtain ⟨L, hL⟩ : ∃ L, n - 1 = L := ⟨_, rfl⟩
  have k2 : ¬ (64 : Int) ≤ (d : Int) := by omega
  have k3 : ¬ (d : Int) < 0 := by omega
  have k4 : (t : Int) - 1 = (q : Int) := by omega
  have k5 : (q : Int) * 2 ^ d = (u : Int) := by rw [← hu, hq, hd]; simp
  rw [hu, hv] at or1
  rw [hu] at or2
  rw [hv] at or3
  rw [hL] at or1 ⊢
  rw [hv] at hlow
  rw [hd] at c2 hlow
  rw [ht] at hone
  have k6 : IntKind.i64.wrap (v : Int) = v := IntWalk.i64_in _ (by omega)
  have k7 : wrap64 (v : Int) = v := by unfold wrap64; omega
  have k8 : Hid (wrap64 (q : Int) = q) := Lib.hid (by unfold wrap64; omega)
  have k9 : Hid (wrap64 (u : Int) = u) := Lib.hid (by unfold wrap64; omega)
  go_enter Tryz.func178, Tryz.ntmps178
  go_wp2_with fail
  refine hone.mono ?_; rintro e w1 ⟨rfl, hb1⟩
  have e0 := (hb1.cell (p := ⟨p, 2, none⟩) a1).trans c2
  have e1 := (hb1.cell (p := ⟨p, 3, none⟩) a1).trans c3
  have HB1 := Lib.hid hb1
  clear hb1 hl hr hc hn hq hu hd hv ht hL q2 q3
  go_wp2_with fail
  go_quiet ((go_at_call 173; exact quiet_ex (hlow _ (below_drewN HB1.out _))))
  go_wp2
  go_ret
  exact ⟨ret_i64 (by rw [k8.out, k5, k9.out]; exact or1), below_drewN HB1.out _⟩
set_option maxRecDepth 100000 in
set_option maxHeartbeats 1000000 in
theorem sGet_0 (p n : Nat) (hn : 3 ≤ n) (hn2 : n < 1024) (w : World) (h : Sq w p n) (hT : Tab w) : Calls Tryz.prog 134 #[.pointer (some ⟨p, 0, none⟩), .int .i64 0] w fun e w' => e = .returned (.tuple #[.int .i64 0, .int .i64 0]) ∧ Below w.heap.size w w' := by
  have hg := sget_0 p n hn hn2
  obtain ⟨b, C, hb, a1, c0, c1, c2, c3, c4, hl, hr, hc⟩ := id h
  go_enter Tryz.func134, Tryz.ntmps134
  go_wp2_with (first | (go_at_call 178; refine (hg _ h hT).mono ?_; rintro e w1 ⟨rfl, hb1⟩))
  go_ret2
  exact ⟨rfl, hb1⟩
set_option maxRecDepth 100000 in
set_option maxHeartbeats 1000000 in
theorem sGet_1 (p n : Nat) (hn : 3 ≤ n) (hn2 : n < 1024) (w : World) (h : Sq w p n) (hT : Tab w) : Calls Tryz.prog 134 #[.pointer (some ⟨p, 0, none⟩), .int .i64 1] w fun e w' => e = .returned (.tuple #[.int .i64 (n - 1 : Nat), .int .i64 0]) ∧ Below w.heap.size w w' := by
  have hg := sget_1 p n hn hn2
  obtain ⟨b, C, hb, a1, c0, c1, c2, c3, c4, hl, hr, hc⟩ := id h
  generalize n - 1 = L at hg ⊢
  go_enter Tryz.func134, Tryz.ntmps134
  go_wp2_with (first | (go_at_call 178; refine (hg _ h hT).mono ?_; rintro e w1 ⟨rfl, hb1⟩))
  go_ret2
  exact ⟨rfl, hb1⟩
end Go.Proofs.YtjelneeeijjpiaaGreatDoor
end
section
namespace Go.Proofs.YtjelneeeijjpiaaGreatDoor
open Go.RowKit
abbrev blk : ByteArray := ⟨#[32, 9, 10, 13]⟩
structure Bare (s : ByteArray) : Prop where
  l : Lib.trimLeftS s.data.toList blk.data.toList = s.data.toList
  r : Lib.trimRightS s.data.toList blk.data.toList = s.data.toList
theorem dropWhile_no (l : List UInt8) (p : UInt8 → Bool) (h : ∀ b, l.head? = some b → p b = false) : l.dropWhile p = l := by
  cases l with
  | nil => rfl
  | cons a l => rw [List.dropWhile_cons_of_neg (by rw [h a rfl]; simp)]
theorem Bare.of (s : ByteArray) (h0 : ∀ b, s.data.toList.head? = some b → blk.data.toList.contains b = false) (h1 : ∀ b, s.data.toList.getLast? = some b → blk.data.toList.contains b = false) : Bare s := by
  refine ⟨dropWhile_no _ _ h0, ?_⟩
  unfold Lib.trimRightS
  rw [dropWhile_no _ _ (fun b hb => h1 b (by rw [List.getLast?_eq_head?_reverse]; exact hb)), List.reverse_reverse]
theorem h116 : (Tryz.prog.info? (Tryz.lays161_ren.t 116)).map (fun i => (i.zero, i.size)) = some (some (.agg (Array.replicate 256 (.bool false))), 256) := by kernel_rfl
theorem h116' : (Tryz.prog.info? (Tryz.lays162_ren.t 116)).map (fun i => (i.zero, i.size)) = some (some (.agg (Array.replicate 256 (.bool false))), 256) := by kernel_rfl
theorem blk_ascii : ∀ (j : Nat) b, blk.data.toList[j]? = some b → b.toNat < 128 := Go.Proofs.ascii_of_all (by decide)
theorem toList_back (s : ByteArray) : (⟨s.data.toList.toArray⟩ : ByteArray) = s := by cases s; simp
theorem trimLeft_no (s : ByteArray) (w : World) (h : Bare s) : Calls Tryz.prog 185 #[.string s, .string blk] w fun e w' => e = .returned (.string s) ∧ Below w.heap.size w w' := by
  have := Any.strings_TrimLeft_laid Tryz.lays161 h116 s blk w (by decide) blk_ascii
  rw [h.l, toList_back] at this
  exact this
theorem trimRight_no (s : ByteArray) (w : World) (h : Bare s) (hs : s.size ≤ 9223372036854775807) : Calls Tryz.prog 186 #[.string s, .string blk] w fun e w' => e = .returned (.string s) ∧ Below w.heap.size w w' := by
  have := Any.strings_TrimRight_laid Tryz.lays162 h116' s blk w hs (by decide) blk_ascii
  rw [h.r, toList_back] at this
  exact this
end Go.Proofs.YtjelneeeijjpiaaGreatDoor
end
section
namespace Go.Proofs.YtjelneeeijjpiaaGreatDoor
open Go.RowKit
theorem below_drewN' {w0 w : World} {B : Nat} (h : Below B w0 w) (m : Nat) : Below B w0 (w.drewN m) := ⟨h.os, h.tape, h.output, h.size, h.block⟩
theorem bel_step {w W w' : World} (a : Below w.heap.size w W) (hb : Below W.heap.size W w') : Hid (Below w.heap.size w w') := Lib.hid (a.trans (hb.mono a.size))
structure Acc (w0 w : World) (e : TypeId) (size : Nat) (v : Value) (n : Nat) (xs : List Value) : Prop where
  own : w.ownsRow w0.heap.size e size v n xs
  bel : Below w0.heap.size w0 w
theorem Acc.nil {w0 w : World} (h : Below w0.heap.size w0 w) (e : TypeId) (size : Nat) : Acc w0 w e size (.slice none 0 0) 0 [] := ⟨World.ownsRow_nil _ _ _ _, h⟩
theorem Acc.below {w0 w w' : World} {e : TypeId} {size : Nat} {v : Value} {n : Nat} {xs : List Value} (h : Acc w0 w e size v n xs) (hb : Below w.heap.size w w') : Acc w0 w' e size v n xs :=
  ⟨h.own.kept (row := Option.none) ⟨hb.os, hb.tape, hb.output, hb.size, fun k hk _ => hb.block k hk⟩ (by
    cases hv : v.ownBlock with
    | none => exact .inl rfl
    | some k => exact .inr (fun e => by injection e)), h.bel.trans (hb.mono h.bel.size)⟩
theorem Acc.alloc {w0 w : World} {e : TypeId} {size : Nat} {v : Value} {n : Nat} {xs : List Value} (h : Acc w0 w e size v n xs) (o : Obj) : Acc w0 (w.alloc o) e size v n xs := h.below ((Below.refl _ _).alloc (Nat.le_refl _) _)
theorem Acc.drewN {w0 w : World} {e : TypeId} {size : Nat} {v : Value} {n : Nat} {xs : List Value} (h : Acc w0 w e size v n xs) (m : Nat) : Acc w0 (w.drewN m) e size v n xs := h.below (below_drewN' (Below.refl _ _) m)
theorem Acc.drew {w0 w : World} {e : TypeId} {size : Nat} {v : Value} {n : Nat} {xs : List Value} (h : Acc w0 w e size v n xs) : Acc w0 w.drew e size v n xs := h.below (Below.refl _ _).drew
theorem wpList_push {P : Program} {ops : Array Oper} {rest : List Oper} {o : Oper} {a : Act} {Q : Exit → Act → World → Prop} {w0 w : World} {C : Array Value} {ty : TypeId} (hgd : o.guard = none) (s x : Operand) (t : TypeId)
    (ho : o.op = .call { callee := .builtin .append, args := #[s, x], argTypes := #[t, t] })
    (e : TypeId) (i : TypeInfo) (z : Value) (size bytes : Nat) (ht : P.underlying t = some (.slice e)) (hi : P.info? e = some i) (hz : i.zero = some z)
    (hsize : i.size = size) (hby : i.bytes = bytes) (hzs : z.cells.size = size) (hsz : 0 < size)
    {v : Value} {n : Nat} {xs : List Value} (hA : Acc w0 w e size v n xs) (hs : a.eval s = v)
    {H : Nat} (hx : a.eval x = .slice (some ⟨H, 0, none⟩) 1 1) (hH : w.heap.size = H) (hC : C.size = size) (h1 : C.toList.all (·.oneCell') = true)
    (h63 : n < 1000) (hbytes : bytes ≤ 1000)
    (h : ∀ g cap w', Acc w0 w' e size (.slice (some ⟨g, 0, none⟩) (n + 1) cap) (n + 1) (xs ++ C.toList) → wpList P ops Q rest (a.put o.dst (.slice (some ⟨g, 0, none⟩) (n + 1) cap)) w') : wpList P ops Q (o :: rest) a (w.alloc (.cells C ty)) := by
  subst hH
  have hb : (n + 1) * bytes ≤ 1000 * 1000 := Nat.mul_le_mul (by omega) hbytes
  refine wpList_append_lies _ hgd s x t ho w0.heap.size e i z size bytes ht hi hz hsize hby hzs hsz v n xs hs (hA.alloc _).own ⟨w.heap.size, 0, none⟩ 1 1 C.toList hx (by simp [hC]) (World.news_of_block (heap_alloc_new w _)) (fun u hu => List.all_eq_true.1 h1 u hu) (by omega) (by unfold maxLen; omega) (by omega) (by have := hA.bel.size; simp; omega) _ rfl ?_
  intro g cap w' ho hg _ _
  exact h g cap w' ⟨ho, (hA.bel.alloc hA.bel.size _).grown hg (by have := hA.bel.size; simp; omega) (fun j hj => (hA.own.lt j hj).1)⟩
theorem step_push {P : Program} {ops : Array Oper} {o : Oper} {a : Act} {K : Act → World → Prop} {Q : Exit → Act → World → Prop} {E : Prop} {w0 w : World} {C : Array Value} {ty : TypeId} (hgd : o.guard = none) (s x : Operand) (t : TypeId)
    (ho : o.op = .call { callee := .builtin .append, args := #[s, x], argTypes := #[t, t] })
    (e : TypeId) (i : TypeInfo) (z : Value) (size bytes : Nat) (ht : P.underlying t = some (.slice e)) (hi : P.info? e = some i) (hz : i.zero = some z)
    (hsize : i.size = size) (hby : i.bytes = bytes) (hzs : z.cells.size = size) (hsz : 0 < size)
    {v : Value} {n : Nat} {xs : List Value} (hA : Acc w0 w e size v n xs) (hs : a.eval s = v)
    {H : Nat} (hx : a.eval x = .slice (some ⟨H, 0, none⟩) 1 1) (hH : w.heap.size = H) (hC : C.size = size) (h1 : C.toList.all (·.oneCell') = true)
    (h63 : n < 1000) (hbytes : bytes ≤ 1000)
    (h : ∀ g cap w', Acc w0 w' e size (.slice (some ⟨g, 0, none⟩) (n + 1) cap) (n + 1) (xs ++ C.toList) → K (a.put o.dst (.slice (some ⟨g, 0, none⟩) (n + 1) cap)) w') :
    if Region.wanted o (yielded ops a.tmps) = true then Oper.wp P o a (w.alloc (.cells C ty)) K Q else E := by
  subst hH
  have hb : (n + 1) * bytes ≤ 1000 * 1000 := Nat.mul_le_mul (by omega) hbytes
  refine step_append_lies _ hgd s x t ho w0.heap.size e i z size bytes ht hi hz hsize hby hzs hsz v n xs hs (hA.alloc _).own ⟨w.heap.size, 0, none⟩ 1 1 C.toList hx (by simp [hC]) (World.news_of_block (heap_alloc_new w _)) (fun u hu => List.all_eq_true.1 h1 u hu) (by omega) (by unfold maxLen; omega) (by omega) (by have := hA.bel.size; simp; omega) _ rfl ?_
  intro g cap w' ho hg _ _
  exact h g cap w' ⟨ho, (hA.bel.alloc hA.bel.size _).grown hg (by have := hA.bel.size; simp; omega) (fun j hj => (hA.own.lt j hj).1)⟩
theorem acc_step {w0 W0 W w' : World} {e : TypeId} {size : Nat} {v : Value} {n : Nat} {xs : List Value} (h : Acc w0 W0 e size v n xs) (a : Below W0.heap.size W0 W) (hb : Below W.heap.size W w') : Hid (Acc w0 w' e size v n xs) := Lib.hid ((h.below a).below hb)
theorem Acc.cap {w0 w : World} {e : TypeId} {size : Nat} {g cap n : Nat} {xs : List Value} (h : Acc w0 w e size (.slice (some ⟨g, 0, none⟩) (n + 1) cap) (n + 1) xs) : n + 1 ≤ cap := by
  rcases h.own.2 with ⟨hv, h0⟩ | ⟨g', cap', cur, hv, hb, hg, hc, _, hs, hx⟩
  · omega
  · injection hv with hv _ h3
    omega
theorem Acc.row {w0 w : World} {e : TypeId} {size : Nat} {g cap n : Nat} {xs : List Value} (h : Acc w0 w e size (.slice (some ⟨g, 0, none⟩) (n + 1) cap) (n + 1) xs) : w0.heap.size ≤ g ∧ g < w.heap.size ∧ ∀ j u, xs[j]? = some u → w.cell? ⟨g, j, none⟩ = some u := by
  rcases h.own.2 with ⟨hv, h0⟩ | ⟨g', cap', cur, hv, hb, hg, _, _, hs, hx⟩
  · omega
  · injection hv with hv _ _
    injection hv with hv
    injection hv with hv _ _
    subst hv
    refine ⟨hb, (Array.getElem?_eq_some_iff.1 hg).1, fun j u hj => ?_⟩
    rw [← hx, List.getElem?_take] at hj
    split at hj
    · simp [World.cell?, hg, hj]
      simpa using hj
    · simp at hj
end Go.Proofs.YtjelneeeijjpiaaGreatDoor
end
