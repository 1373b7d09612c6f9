/- TopText: walks and plain laws, part 3: lemmas on what the functions that the law comes to compute. -/
import Derived.RangeFuncNested
import Derived.RangeFuncBound
import Derived.RangeFuncCalls
import Derived.RangeFuncLeaves
import Derived.Shelf.Abstract
import Derived.Shelf.RegionOpen
import Derived.WalkKit
import Derived.OwnWalkIn
import Derived.TacticsInMore
import Derived.LoopNIn
import Derived.LoopIn
import Derived.Test.YtjelneeeijjpiaaGreatDoorG02
import Derived.RangeFuncFrom
set_option linter.unusedVariables false
set_option linter.unusedSimpArgs false
section
set_option maxRecDepth 100000
namespace Go.Proofs.YtjelneeeijjpiaaGreatDoor.Tx
open Go.RowKit Go.Shelf Go.Proofs.Lw Go.Proofs.Le
attribute [local go_sem] Oper.semAt_some
theorem char_at (s : ByteArray) (k : Nat) (C : Int) (M : Nat) (w : World) (hs : s.size ≤ maxLen) (hC : Hid (charP (s.data.toList.drop k) = (C, M))) :
    Calls Tryz.prog 212 #[.string (s.extract k s.size)] w fun e w' => e = .returned (.tuple #[.int .i64 C, .int .i64 (M : Nat)]) ∧ w = w' := by
  refine char_any _ C M w (by simp; omega) (Lib.hid ?_)
  rw [Lib.extract_data, List.take_of_length_le (by simp)]; exact hC.out
theorem uscal_le (l : List UInt8) : (uscal l).2 ≤ l.length := by
  by_cases h : (uscal l).2 = 0
  · omega
  · exact (uscal_some l h).1
set_option maxHeartbeats 1000000 in
theorem chars_any (n : Nat) (s : ByteArray) (w : World) :
    CallsIn Fence.wide n Tryz.prog 154 #[.string s] w fun e w' => e = .returned (.func (.func 211) #[] #[.pointer (some ⟨w.heap.size, 0, none⟩)]) ∧ w' = w.alloc (.cells #[.string s] 9) := by
  refine callsIn_of_wp Tryz.func154 rfl trivial ?_ rfl
  simp only [Tryz.ntmps154, List.size_toArray, List.length_cons, List.length_nil, Nat.reduceAdd, Nat.reduceSub, Array.replicate_succ, Array.replicate_zero, List.push_toArray, List.append_toArray, List.nil_append, List.cons_append]
  gi_wp2
  go_ret
  exact ⟨rfl, rfl⟩
theorem empty_no (s : ByteArray) (h : 0 < s.size) : s.toList.isEmpty = false := by
  rw [ByteArray.toList_eq, list_cons s h]; rfl
theorem empty_yes (s : ByteArray) (h : s.size = 0) : s.toList.isEmpty = true := by
  rw [ByteArray.toList_eq, show s.data.toList = [] from List.eq_nil_of_length_eq_zero (by rw [← Lib.size_eq]; exact h)]; rfl
theorem at34 (s : ByteArray) (k : Nat) (h : k < s.size) : s.data.toList[k]? = some 34 ↔ (s[k].toNat : Int) = 34 := by
  rw [List.getElem?_eq_getElem (by rw [← Lib.size_eq]; exact h), Option.some.injEq]
  exact (u8_int (a := s[k]) (n := 34) (by decide)).symm
def KpB (B : Nat) (W W' : World) : Prop := ∀ v, W.cell? ⟨B, 0, none⟩ = some v → W'.cell? ⟨B, 0, none⟩ = some v
set_option maxRecDepth 100000 in
set_option maxHeartbeats 1000000 in
theorem chars1_in (n : Nat) (hn : 1 ≤ n) (l Bn : Nat) (s : ByteArray) (hs : s.size ≤ 100000) (J Jx : List (Int × Int) → World → Prop)
    (hY : ∀ pre x W, J pre W → pre.length < (charsL s.data.toList).length → YieldAt Fence.wide (n - 1) Tryz.prog l #[.int .i64 x.1, .int .i64 x.2] W fun e W' =>
      (e = .returned (.bool true) ∧ J (pre ++ [x]) W' ∧ KpB Bn W W') ∨ (e = .returned (.bool false) ∧ Jx (pre ++ [x]) W'))
    (W : World) (hBn : W.cell? ⟨Bn, 0, none⟩ = some (.string s)) (h0 : J [] W) :
    CallsIn Fence.wide n Tryz.prog 211 #[.func (.yield l) #[] #[], .pointer (some ⟨Bn, 0, none⟩)] W fun e W' => (∃ v, e = .returned v) ∧
      ((∃ ys, ys = charsL s.data.toList ∧ J ys W') ∨ (∃ pre, pre <+: charsL s.data.toList ∧ Jx pre W')) := by
  have hsz : Hid (s.size = s.data.toList.length) := Lib.hid (Lib.size_eq s)
  refine callsIn_of_wp Tryz.func211 rfl trivial ?_ rfl
  simp only [Tryz.ntmps211, List.size_toArray, List.length_cons, List.length_nil, Nat.reduceAdd, Nat.reduceSub, Array.replicate_succ, Array.replicate_zero, List.push_toArray, List.append_toArray, List.nil_append, List.cons_append]
  by_cases hst : s.data.toList[0]? = some 34
  · have hpos : 0 < s.size := by
      rcases Nat.lt_or_ge 0 s.size with h | h
      · exact h
      · rw [List.getElem?_eq_none (by rw [← hsz.out]; exact h)] at hst; exact absurd hst (by simp)
    have hem := empty_no s hpos
    have h34 : ((s[0].toNat : Int) != 34) = false := by rw [bne_eq_false_iff_eq]; exact (at34 s 0 hpos).1 hst
    have HX : Hid (charsL s.data.toList = evs s.data.toList (s.size + 1) 1) := Lib.hid (by rw [charsL, if_pos hst, ← hsz.out])
    clear hst
    gi_wp2
    gi_loopw [3] (fun v wr => ∃ (k f : Nat) (pre : List (Int × Int)), v = .int .i64 k ∧ 1 ≤ k ∧ k ≤ s.size ∧ Hid (s.size < k + f) ∧ Hid (charsL s.data.toList = pre ++ evs s.data.toList f k) ∧ J pre wr ∧ wr.cell? ⟨Bn, 0, none⟩ = some (.string s)) (fun v _ => s.size + 1 - (intOf v).toNat)
    case atStart => exact ⟨1, s.size + 1, [], rfl, by omega, by omega, Lib.hid (by omega), HX, h0, hBn⟩
    case round =>
      clear HX h0 hBn hem h34
      obtain ⟨k, f, pre, rfl, hk1, hk, hf, hX, hJ, hB⟩ := hrel
      obtain ⟨f, rfl⟩ : ∃ f', f = f' + 1 := ⟨f - 1, by have := hf.out; omega⟩
      by_cases hin : k < s.size ∧ s.data.toList[k]? ≠ some 34
      · obtain ⟨hlt, hne⟩ := hin
        obtain ⟨c, m, hcm⟩ : ∃ c m, charP (s.data.toList.drop k) = (c, m) := ⟨_, _, rfl⟩
        have hm := charP_len _ c m hcm (uscal_le _)
        rw [List.length_drop, ← hsz.out] at hm
        have hX2 : Hid (charsL s.data.toList = pre ++ (c, (k : Int) + (m : Int)) :: (if c = -1 then [] else evs s.data.toList f (k + m))) := Lib.hid (by
          rw [hX.out, evs_in _ f k c m ⟨by rw [← hsz.out]; exact hlt, hne⟩ hcm, Int.natCast_add])
        have hlen : pre.length < (charsL s.data.toList).length := by rw [hX2.out]; simp
        have h34 : ((s[k].toNat : Int) != 34) = true := by rw [bne_iff_ne]; exact fun h => hne ((at34 s k hlt).2 h)
        have hki : (k : Int) < (s.size : Int) := by omega
        have hC := Lib.hid hcm
        obtain ⟨hm1, hm2⟩ := hm
        have Hm2 := Lib.hid hm2
        obtain ⟨fn, tmps, assign, body, hy, hR⟩ := hY pre (c, (k : Int) + (m : Int)) wr hJ hlen
        dsimp only at hy
        clear hne hcm hX hm2
        gi_wp2_with (refine ⟨trivial, ?_⟩; gi_at_call 212; refine (callsIn_wide.2 (char_at s k c m _ (by unfold maxLen; omega) hC)).mono ?_; rintro e w' ⟨rfl, rfl⟩)
        refine hR.mono ?_
        rintro e W3 (⟨rfl, hJ3, hk3⟩ | ⟨rfl, hJx3⟩)
        · have hB3 := hk3 _ hB
          by_cases hc : c = -1
          · have hcb : (c == -1) = true := by rw [beq_iff_eq]; exact hc
            have hE : Hid (pre ++ [(c, (k : Int) + (m : Int))] = charsL s.data.toList) := Lib.hid (by rw [hX2.out, if_pos hc])
            clear hc
            gi_wp2
            refine bodyPost_ret (results_none rfl _ _ _) rfl ?_
            exact ⟨⟨_, rfl⟩, .inl ⟨_, hE.out, hJ3⟩⟩
          · have hcb : (c == -1) = false := by rw [beq_eq_false_iff_ne]; exact hc
            have hE : Hid (charsL s.data.toList = (pre ++ [(c, (k : Int) + (m : Int))]) ++ evs s.data.toList f (k + m)) := Lib.hid (by rw [hX2.out, if_neg hc]; simp)
            have hmm := Hm2.out hc
            have hf2 : Hid (s.size < k + m + f) := Lib.hid (by have := hf.out; omega)
            clear hc
            gi_wp2
            go_roundw
            case rel => go_light; exact ⟨k + m, f, _, by go_num, by omega, by omega, hf2, hE, hJ3, hB3⟩
            case measure => simp [intOf]; omega
        · gi_wp2
          refine bodyPost_ret (results_none rfl _ _ _) rfl ?_
          exact ⟨⟨_, rfl⟩, .inr ⟨_, ⟨_, by rw [hX2.out, List.append_assoc]; rfl⟩, hJx3⟩⟩
      · have hX2 : Hid (charsL s.data.toList = pre ++ if k + 1 = s.size then [] else [(-1, (k : Int))]) := Lib.hid (by
          rw [hX.out, evs_out _ f k (by rw [← hsz.out]; exact hin), ← hsz.out])
        have hst : ¬ k < s.size ∨ ∃ h : k < s.size, (s[k].toNat : Int) = 34 := by
          by_cases h : k < s.size
          · right
            refine ⟨h, (at34 s k h).1 ?_⟩
            by_cases h' : s.data.toList[k]? = some 34
            · exact h'
            · exact absurd ⟨h, h'⟩ hin
          · left; exact h
        clear hin hX
        by_cases hlast : k + 1 = s.size
        · have hE : Hid (pre = charsL s.data.toList) := Lib.hid (by rw [hX2.out, if_pos hlast]; simp)
          have hl2 : (s.size : Int) - 1 = (k : Int) := by omega
          rcases hst with hst | ⟨h, hst⟩
          · omega
          · have h34 : ((s[k].toNat : Int) != 34) = false := by rw [bne_eq_false_iff_eq]; exact hst
            have hki : (k : Int) < (s.size : Int) := by omega
            clear hst
            gi_wp2
            go_end0
            exact ⟨⟨_, rfl⟩, .inl ⟨pre, hE.out, hJ⟩⟩
        · have hX3 : Hid (charsL s.data.toList = pre ++ [(-1, (k : Int))]) := Lib.hid (by rw [hX2.out, if_neg hlast])
          have hlen : pre.length < (charsL s.data.toList).length := by rw [hX3.out]; simp
          have hl2 : ¬ (k : Int) = (s.size : Int) - 1 := by omega
          obtain ⟨fn, tmps, assign, body, hy, hR⟩ := hY pre (-1, (k : Int)) wr hJ hlen
          dsimp only at hy
          clear hX2 hlast
          rcases hst with hst | ⟨h, hst⟩
          · have hki : ¬ (k : Int) < (s.size : Int) := by omega
            gi_wp2
            refine hR.mono ?_
            rintro e W3 (⟨rfl, hJ3, hk3⟩ | ⟨rfl, hJx3⟩)
            · gi_wp2
              go_end0
              exact ⟨⟨_, rfl⟩, .inl ⟨_, hX3.out.symm, hJ3⟩⟩
            · gi_wp2
              go_end0
              exact ⟨⟨_, rfl⟩, .inr ⟨_, ⟨[], by rw [hX3.out]; simp⟩, hJx3⟩⟩
          · have h34 : ((s[k].toNat : Int) != 34) = false := by rw [bne_eq_false_iff_eq]; exact hst
            have hki : (k : Int) < (s.size : Int) := by omega
            clear hst
            gi_wp2
            refine hR.mono ?_
            rintro e W3 (⟨rfl, hJ3, hk3⟩ | ⟨rfl, hJx3⟩)
            · gi_wp2
              go_end0
              exact ⟨⟨_, rfl⟩, .inl ⟨_, hX3.out.symm, hJ3⟩⟩
            · gi_wp2
              go_end0
              exact ⟨⟨_, rfl⟩, .inr ⟨_, ⟨[], by rw [hX3.out]; simp⟩, hJx3⟩⟩
  · have HX : Hid (charsL s.data.toList = [(-1, 0)]) := Lib.hid (by rw [charsL, if_neg hst])
    obtain ⟨fn, tmps, assign, body, hy, hR⟩ := hY [] (-1, 0) W h0 (by rw [HX.out]; simp)
    dsimp only at hy
    by_cases hz : s.size = 0
    · have hem := empty_yes s hz
      clear hst
      gi_wp2
      refine hR.mono ?_
      rintro e W3 (⟨rfl, hJ3, hk3⟩ | ⟨rfl, hJx3⟩)
      · gi_wp2
        refine bodyPost_ret (results_none rfl _ _ _) rfl ?_
        exact ⟨⟨_, rfl⟩, .inl ⟨_, HX.out.symm, hJ3⟩⟩
      · gi_wp2
        refine bodyPost_ret (results_none rfl _ _ _) rfl ?_
        exact ⟨⟨_, rfl⟩, .inr ⟨_, ⟨[], by rw [HX.out]; simp⟩, hJx3⟩⟩
    · have hpos : 0 < s.size := by omega
      have hem := empty_no s hpos
      have h34 : ((s[0].toNat : Int) != 34) = true := by rw [bne_iff_ne]; exact fun h => hst ((at34 s 0 hpos).2 h)
      clear hst
      gi_wp2
      refine hR.mono ?_
      rintro e W3 (⟨rfl, hJ3, hk3⟩ | ⟨rfl, hJx3⟩)
      · gi_wp2
        refine bodyPost_ret (results_none rfl _ _ _) rfl ?_
        exact ⟨⟨_, rfl⟩, .inl ⟨_, HX.out.symm, hJ3⟩⟩
      · gi_wp2
        refine bodyPost_ret (results_none rfl _ _ _) rfl ?_
        exact ⟨⟨_, rfl⟩, .inr ⟨_, ⟨[], by rw [HX.out]; simp⟩, hJx3⟩⟩
theorem KpB_t {B : Nat} {W1 W2 W3 : World} (h : KpB B W1 W2) (k : KpB B W2 W3) : KpB B W1 W3 := fun v hv => k v (h v hv)
theorem KpB_b {B : Nat} {w : World} (W : World) (l : Nat) (o o' : Obj) (_ : w.heap.size ≤ l) (h : W.heap[l]? = some o) (ho : o.isCells = false) (_ : o.isWalk = false) : KpB B W (W.putObj l o') := fun v hv =>
  cell_kept hv (grownBy_putObj' W l o') (fun r e => by cases e; exact ⟨o, h, ho⟩)
theorem chars_stops (n : Nat) (hn : 1 ≤ n) (Bn : Nat) (s : ByteArray) (hs : s.size ≤ 100000) (w : World) (hBn : Bn < w.heap.size) (hc : w.cell? ⟨Bn, 0, none⟩ = some (.string s)) :
    SeqStopsK Fence.wide n Tryz.prog 211 #[.pointer (some ⟨Bn, 0, none⟩)] (fun x : Int × Int => #[Value.int .i64 x.1, Value.int .i64 x.2]) (KpB Bn) (fun ys => ys = charsL s.data.toList) (fun pre => pre <+: charsL s.data.toList) (charsL s.data.toList).length w := fun l J Jx W hW _ _ hY h0 =>
  chars1_in n hn l Bn s hs J Jx hY W ((hW.cell (p := ⟨Bn, 0, none⟩) hBn).trans hc) h0
end Go.Proofs.YtjelneeeijjpiaaGreatDoor.Tx
end
section
set_option maxRecDepth 100000
namespace Go.Proofs.YtjelneeeijjpiaaGreatDoor.Tx
open Go.RowKit Go.Shelf Go.Proofs.Lw Go.Proofs.Le
attribute [local go_sem] Oper.semAt_some
theorem cell_of_box_l {W : World} {B : Nat} {v : Value} {t : TypeId} (h : W.heap[B]? = some (.cells #[v] t (0, 0))) : W.cell? ⟨B, 0, none⟩ = some v ∧ W.frozen? ⟨B, 0, none⟩ = false := by
  constructor <;> simp [World.cell?, World.frozen?, h]
theorem is_no {L : List (Int × Int)} {R : Bool} {y : Int × Int} (hR : R = true ↔ ∀ y ∈ L, y.1 ≠ -1) (hy : y ∈ L) (h1 : y.1 = -1) : R = false := by
  cases R
  · rfl
  · exact absurd h1 (hR.1 rfl y hy)
end Go.Proofs.YtjelneeeijjpiaaGreatDoor.Tx
end
