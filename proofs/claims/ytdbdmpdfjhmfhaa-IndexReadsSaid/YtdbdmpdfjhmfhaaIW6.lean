/- The walk of Write. -/
import Derived.Test.YtdbdmpdfjhmfhaaIW5
import Derived.Test.YtdbdmpdfjhmfhaaIW3
import Derived.Test.YtdbdmpdfjhmfhaaIPlain3
namespace Go.Proofs.Ytdbdmpdfjhmfhaa
open Go.RowKit Go.Proofs.Lx

theorem wrapU (n : Nat) (h : n < 18446744073709551616) : IntKind.u64.wrap (n : Int) = (n : Int) := by rw [IntKind.wrap_u64]; omega
theorem sb_new (B : Nat) (w : World) (hB : B ≤ w.heap.size) : SB B w.heap.size [] (w.alloc (.cells #[.pointer none, .slice none 0 0] 47)) := by
  refine .inl ⟨hB, .slice none 0 0, heap_alloc_new w _, ⟨rfl, .inl ⟨rfl, rfl⟩⟩, ?_⟩
  simp [Value.ownBlock]
theorem SB.alloc {B b : Nat} {l : List UInt8} {w : World} (h : SB B b l w) (o : Obj) : SB B b l (w.alloc o) := Lib.IsBuilderF.alloc h o
theorem Keeps.alloc {B b : Nat} {w w' : World} (h : Keeps B b w w') (hB : B ≤ w'.heap.size) (o : Obj) : Keeps B b w (w'.alloc o) := ⟨h.1.alloc hB o, h.2.alloc o⟩
theorem sum_to (s : ByteArray) (n : Nat) (w : World) (hs : s.size ≤ maxLen) (h : Hid (sumL s.data.toList = n)) :
    Calls Try.prog 16 #[.string s] w fun e w' => e = .returned (.int .u64 (n : Nat)) ∧ w = w' := by
  rw [← h.out]; exact sum_any s w hs

theorem put_new (B b : Nat) (l : List UInt8) (g n : Nat) (ns : List Nat) (C : Array Value) (w : World) (hS : Hid (SB B b l w)) (hl : l.length ≤ 10000000) (hlen : Hid (ns.length = n)) (hn : n ≤ 1000) (hBw : B ≤ w.heap.size)
    (hb : b < w.heap.size) (hC : Hid (C = (ns.map fun n => Value.int .u64 (n : Nat)).toArray)) (h64 : Hid (∀ n ∈ ns, n < 18446744073709551616)) (hg : g = w.heap.size) :
    Calls Try.prog 20 #[.pointer (some ⟨b, 0, none⟩), .slice (some ⟨g, 0, none⟩) n n] (w.alloc (.cells C 35)) fun e w' => e = .returned (.tuple #[]) ∧ SB B b (l ++ eights ns) w' ∧ Keeps B b w w' := by
  subst hg
  refine (put_any B b l w.heap.size n n ns _ (Lib.hid (hS.out.alloc _)) hl hlen hn (by simp; omega) (by omega) (Lib.hid (by rw [heap_alloc_new, hC.out])) h64).mono ?_
  rintro e w' ⟨rfl, h1, h2⟩
  exact ⟨rfl, h1, ((Keeps.refl B b w).alloc hBw _).trans h2⟩
theorem formed_elem {f size : Int} {L : List En} (h : FormedGo f size L) : ∀ (k : Nat) (x : En), L[k]? = some x → (0 ≤ x.frm ∧ x.frm ≤ x.to ∧ x.to ≤ size) ∧ (1 ≤ x.ver ∧ x.ver ≤ 4) ∧ 0 ≤ x.at_ ∧ x.at_ ≤ 65536 := by
  induction L generalizing f with
  | nil => intro k x hx; simp at hx
  | cons y L ih =>
    intro k x hx
    obtain ⟨h1, h2⟩ := h
    cases k with
    | zero =>
      simp at hx; subst hx
      obtain ⟨z1, z2, z3, z4, z5, z6, z7, z8, _⟩ := not_bad h1
      exact ⟨⟨z2, z3, z4⟩, ⟨z5, z6⟩, z7, z8⟩
    | succ k => exact ih h2 k x (by simpa using hx)

set_option maxRecDepth 100000 in
set_option maxHeartbeats 4000000 in
theorem write_any (d z : Nat) (a : Option Addr) (len cap : Nat) (L : List En) (w : World) (hF : Hid (FormedT d z L)) (hFew : Hid (FewT L)) (hE : Hid (Ents w a len L)) :
    Calls Try.prog 10 #[.agg #[.int .i64 (d : Int), .int .i64 (z : Int), .slice a len cap]] w fun e w' =>
      e = .returned (.tuple #[.string ⟨(writeB d z L).toArray⟩, .int .i64 0]) ∧ Below w.heap.size w w' := by
  have hd : d ≤ 4096 := by have := hF.out.1.2; omega
  have hz : z ≤ 1048576 := by have := hF.out.2.1.2; omega
  have hll : Hid (L.length = len) := Lib.hid hE.out.1
  have hl : len ≤ 12 := by have := hFew.out.2; have := hll.out; omega
  have u1 := wrapU d (by omega)
  have u2 := wrapU z (by omega)
  have u3 := wrapU len (by omega)
  have hE1 : Hid (Ents (w.alloc (.cells #[.int .i64 (d : Int), .int .i64 (z : Int), .slice a len cap] 24)) a len L) := Lib.hid (hE.out.below (below1 _ _))
  have hbox := Lib.hid (heap_alloc_new w (.cells #[.int .i64 (d : Int), .int .i64 (z : Int), .slice a len cap] 24))
  go_enter Try.func10, Try.ntmps10
  go_wp2_with fail
  refine (formed_any _ _ _ _ _ L _ true (Lib.hid ⟨fun _ => hF.out, fun _ => rfl⟩) hE1.out).mono ?_; rintro e w1 ⟨rfl, hb1⟩
  have hbox1 : Hid (w1.heap[w.heap.size]? = some (.cells #[.int .i64 (d : Int), .int .i64 (z : Int), .slice a len cap] 24)) := Lib.hid (by
    rw [hb1.block w.heap.size (by simp)]; exact hbox.out)
  have hs1 : w.heap.size < w1.heap.size := by have := hb1.size; simp at this; omega
  have hbl1 : Hid (Below w.heap.size w w1) := Lib.hid ((below1 w _).trans (hb1.mono (by simp)))
  clear hb1
  have hSB := Lib.hid (sb_new w.heap.size w1 (Nat.le_of_lt hs1))
  have hK := Lib.hid ((Keeps.refl w.heap.size w1.heap.size w1).alloc (Nat.le_of_lt hs1) (.cells #[.pointer none, .slice none 0 0] 47))
  go_wp2_with fail
  refine (sb_writeString w.heap.size w1.heap.size [] _ _ hSB.out (by simp) (by decide) (by simp; omega)).mono ?_; rintro e w2 ⟨rfl, h1, h2⟩
  have hSB2 : Hid (SB w.heap.size w1.heap.size nameL w2) := Lib.hid h1
  have hK2 := Lib.hid (hK.out.trans h2)
  have hs2 : w1.heap.size < w2.heap.size := by have := h2.1.size; simp at this; omega
  clear h1 h2 hSB hK
  have hbox2 := Lib.hid (hK2.out.block hbox1.out (by omega) (by simp))
  have c0 : w2.cell? ⟨w.heap.size, 0, none⟩ = some (.int .i64 (d : Int)) := by rw [cell_of_block hbox2.out]; rfl
  have c1 : w2.cell? ⟨w.heap.size, 1, none⟩ = some (.int .i64 (z : Int)) := by rw [cell_of_block hbox2.out]; rfl
  have c2 : w2.cell? ⟨w.heap.size, 2, none⟩ = some (.slice a len cap) := by rw [cell_of_block hbox2.out]; rfl
  go_wp2_with fail
  refine (put_new w.heap.size w1.heap.size nameL _ 3 [d, z, len] _ w2 hSB2 (by decide) (Lib.hid rfl) (by omega) (by omega) hs2 (Lib.hid rfl) (Lib.hid (by intro n hn; simp at hn; omega)) rfl).mono ?_
  rintro e w3 ⟨rfl, h1, h2⟩
  have hs3 : w1.heap.size < w3.heap.size := by have := h2.1.size; omega
  have hSB3 : Hid (SB w.heap.size w1.heap.size (fixB d z len ++ ensB (L.take 0)) w3) := Lib.hid (by simpa [fixB, ensB] using h1)
  have hK3 := Lib.hid (hK2.out.trans h2)
  have hbox3 := Lib.hid (hbox2.out)
  clear h1 h2 c0 c1 c2 hSB2 hbox2
  have hbox4 := Lib.hid (hK3.out.block hbox1.out (by omega) (by simp))
  have c2 : w3.cell? ⟨w.heap.size, 2, none⟩ = some (.slice a len cap) := by rw [cell_of_block hbox4.out]; rfl
  go_wp2_with fail
  clear u1 u2 u3
  go_loopg [26] len (fun q v wr => ∃ k : Nat, k ≤ len ∧ q = len - k ∧ v = .int .i64 k ∧ w1.heap.size < wr.heap.size ∧ Hid (SB w.heap.size w1.heap.size (fixB d z len ++ ensB (L.take k)) wr) ∧ Hid (Keeps w.heap.size w1.heap.size w1 wr))
  case atStart => exact ⟨0, Nat.zero_le _, rfl, rfl, hs3, hSB3, hK3⟩
  case round =>
    clear hSB3 hK3 hs3 hbox4 c2 hK2 hs2 hbox3
    obtain ⟨k, hk, rfl, rfl, hsr, hS, hK⟩ := hrel
    have hlenS : Hid ((fixB d z len ++ ensB (L.take k)).length ≤ 10000) := Lib.hid (by
      rw [List.length_append, fixB_len, ensB_len]; have := lens_few L hFew.out k; omega)
    by_cases hlt : k < len
    · have hdk : decide ((k : Int) < (len : Int)) = true := by rw [decide_eq_true_eq]; omega
      have hEr : Ents wr a len L := hE.out.below (hbl1.out.trans hK.out.1)
      obtain ⟨b, off, rfl, hb, hx⟩ := hEr.2.2 (by omega)
      obtain ⟨⟨fr, tt, vv, aa, bb⟩, hxk⟩ : ∃ x, L[k]? = some x := ⟨_, List.getElem?_eq_getElem (by rw [hll.out]; exact hlt)⟩
      obtain ⟨⟨f1, f2, f3⟩, ⟨v1, v2⟩, a1, a2⟩ := formed_elem hF.out.2.2.2 k _ hxk
      have hbb := hFew.out.1 k _ (by omega) hxk
      dsimp only at f1 f2 f3 v1 v2 a1 a2 hbb
      obtain ⟨fr, rfl⟩ := Int.eq_ofNat_of_zero_le f1
      obtain ⟨tt, rfl⟩ := Int.eq_ofNat_of_zero_le (show 0 ≤ tt by omega)
      obtain ⟨vv, rfl⟩ := Int.eq_ofNat_of_zero_le (show 0 ≤ vv by omega)
      obtain ⟨aa, rfl⟩ := Int.eq_ofNat_of_zero_le a1
      obtain ⟨q0, q1, q2, q3, q4⟩ := hx k _ hxk
      dsimp only at q0 q1 q2 q3 q4
      have HK := Lib.hid hxk
      clear hx hxk hEr f1
      have u1 := wrapU fr (by omega)
      have u2 := wrapU tt (by omega)
      have u3 := wrapU aa (by omega)
      have u4 := wrapU bb.size (by omega)
      have hXb := Lib.hid (heap_alloc_new wr (.cells #[.int .i64 (fr : Int), .int .i64 (tt : Int), .int .i64 (vv : Int), .int .i64 (aa : Int), .string bb] 30))
      have hS1 : Hid (SB w.heap.size w1.heap.size (fixB d z len ++ ensB (L.take k)) (wr.alloc (.cells #[.int .i64 (fr : Int), .int .i64 (tt : Int), .int .i64 (vv : Int), .int .i64 (aa : Int), .string bb] 30))) := Lib.hid (hS.out.alloc _)
      have hK1 : Hid (Keeps w.heap.size w1.heap.size w1 (wr.alloc (.cells #[.int .i64 (fr : Int), .int .i64 (tt : Int), .int .i64 (vv : Int), .int .i64 (aa : Int), .string bb] 30))) := Lib.hid (hK.out.alloc (by omega) _)
      have hsx : w1.heap.size < (wr.alloc (.cells #[.int .i64 (fr : Int), .int .i64 (tt : Int), .int .i64 (vv : Int), .int .i64 (aa : Int), .string bb] 30)).heap.size := by simp; omega
      go_wp2_with fail
      refine (put_new w.heap.size w1.heap.size _ _ 2 [fr, tt] _ _ hS1 (by have := hlenS.out; omega) (Lib.hid rfl) (by omega) (by omega) hsx (Lib.hid rfl) (Lib.hid (by intro n hn; simp at hn; omega)) (by simp)).mono ?_
      rintro e w4 ⟨rfl, h1, h2⟩
      have hS4 := Lib.hid h1
      have hK4 := Lib.hid (hK1.out.trans h2)
      have hX4 := Lib.hid (h2.block hXb.out (by omega) (by simp))
      have hs4 : w1.heap.size < w4.heap.size := by have := h2.1.size; omega
      clear h1 h2 hS1 hK1 hXb u1 u2
      have e0 : w4.cell? ⟨wr.heap.size, 2, none⟩ = some (.int .i64 (vv : Int)) := by rw [cell_of_block hX4.out]; rfl
      go_wp2_with fail
      refine (sb_writeByte w.heap.size w1.heap.size _ (vv : Int) _ hS4.out (by have := hlenS.out; rw [List.length_append, eights_len]; simp only [List.length_cons, List.length_nil]; omega) (by omega) (by omega) (by omega)).mono ?_
      rintro e w5 ⟨rfl, h1, h2⟩
      have hS5 := Lib.hid h1
      have hK5 := Lib.hid (hK4.out.trans h2)
      have hX5 := Lib.hid (h2.block hX4.out (by omega) (by simp))
      have hs5 : w1.heap.size < w5.heap.size := by have := h2.1.size; omega
      clear h1 h2 hS4 hK4 hX4 e0 hs4
      have e1 : w5.cell? ⟨wr.heap.size, 3, none⟩ = some (.int .i64 (aa : Int)) := by rw [cell_of_block hX5.out]; rfl
      have e2 : w5.cell? ⟨wr.heap.size, 4, none⟩ = some (.string bb) := by rw [cell_of_block hX5.out]; rfl
      go_wp2_with fail
      refine (put_new w.heap.size w1.heap.size _ _ 2 [aa, bb.size] _ _ hS5 (by have := hlenS.out; simp only [List.length_append, eights_len, List.length_cons, List.length_nil] at this ⊢; omega) (Lib.hid rfl) (by omega) (by omega) hs5 (Lib.hid rfl) (Lib.hid (by intro n hn; simp at hn; omega)) rfl).mono ?_
      rintro e w6 ⟨rfl, h1, h2⟩
      have hS6 := Lib.hid h1
      have hK6 := Lib.hid (hK5.out.trans h2)
      have hX6 := Lib.hid (h2.block hX5.out (by omega) (by simp))
      have hs6 : w1.heap.size < w6.heap.size := by have := h2.1.size; omega
      clear h1 h2 hS5 hK5 hX5 e1 e2 hs5 u3 u4
      have e3 : w6.cell? ⟨wr.heap.size, 4, none⟩ = some (.string bb) := by rw [cell_of_block hX6.out]; rfl
      go_wp2_with fail
      refine (sb_writeString w.heap.size w1.heap.size _ bb _ hS6.out (by have := hlenS.out; simp only [List.length_append, eights_len, List.length_cons, List.length_nil] at this ⊢; omega) (by omega) (by omega)).mono ?_
      rintro e w7 ⟨rfl, h1, h2⟩
      have hK7 := Lib.hid (hK6.out.trans h2)
      have hs7 : w1.heap.size < w7.heap.size := by have := h2.1.size; omega
      have hS7 : Hid (SB w.heap.size w1.heap.size (fixB d z len ++ ensB (L.take (k + 1))) w7) := Lib.hid (by
        rw [ensB_snoc L k _ HK.out]
        have ev : UInt8.ofNat ((vv : Nat) : Int).toNat = UInt8.ofNat vv := by rw [Int.toNat_natCast]
        rw [ev] at h1
        simpa only [enB, Int.toNat_natCast, List.append_assoc, Int.ofNat_eq_natCast] using h1)
      clear h1 h2 hS6 hK6 hX6 e3
      go_wp2_with fail
      go_roundg (len - (k + 1))
      case measure => go_light; omega
      case rel => go_light; exact ⟨k + 1, by omega, rfl, by go_num, hs7, hS7, hK7⟩
    · have hSe : Hid (SB w.heap.size w1.heap.size (headB d z L) wr) := Lib.hid (by
        have := hS.out
        rw [List.take_of_length_le (by have := hll.out; omega)] at this
        rw [headB, hll.out]; exact this)
      have hlenH : Hid ((headB d z L).length ≤ 10000) := Lib.hid (by
        have := hlenS.out
        rw [List.take_of_length_le (by have := hll.out; omega)] at this
        rw [headB, hll.out]; exact this)
      clear hS hlenS
      go_wp2_with fail
      refine (sb_string w.heap.size w1.heap.size _ _ hSe.out (by omega)).mono ?_
      rintro e w4 ⟨rfl, h1, h2⟩
      have hS4 := Lib.hid h1
      have hK4 := Lib.hid (hK.out.trans h2)
      have hs4 : w1.heap.size < w4.heap.size := by have := h2.1.size; omega
      clear h1 h2 hSe hK
      obtain ⟨sm, hsm⟩ : ∃ n, sumL (headB d z L) = n := ⟨_, rfl⟩
      have HSM := Lib.hid hsm
      have hsl : Hid (sm < 18446744073709551616) := Lib.hid (by rw [← hsm]; exact sumF_lt _ _ basis_lt)
      clear hsm
      have hszH : (⟨(headB d z L).toArray⟩ : ByteArray).size ≤ maxLen := by
        have h1 : (⟨(headB d z L).toArray⟩ : ByteArray).size = (headB d z L).length := by simp [ByteArray.size]
        have := hlenH.out
        unfold maxLen; omega
      go_wp2_with fail
      refine (sum_to _ sm _ hszH (Lib.hid HSM.out)).mono ?_; rintro e w' ⟨rfl, rfl⟩
      go_wp2_with fail
      refine (put_new w.heap.size w1.heap.size _ _ 1 [sm] _ _ hS4 (by have := hlenH.out; omega) (Lib.hid rfl) (by omega) (by omega) hs4 (Lib.hid rfl) (Lib.hid (by intro n hn; simp at hn; rw [hn]; exact hsl.out)) rfl).mono ?_
      rintro e w5 ⟨rfl, h1, h2⟩
      have hS5 : Hid (SB w.heap.size w1.heap.size (writeB d z L) w5) := Lib.hid (by rw [writeB, HSM.out]; exact h1)
      have hK5 := Lib.hid (hK4.out.trans h2)
      have hs5 : w1.heap.size < w5.heap.size := by have := h2.1.size; omega
      clear h1 h2 hS4 hK4 hs4
      go_wp2_with fail
      refine (sb_string w.heap.size w1.heap.size _ _ hS5.out (by omega)).mono ?_
      rintro e w6 ⟨rfl, h1, h2⟩
      have hK6 := Lib.hid (hK5.out.trans h2)
      clear h1 h2
      go_wp2_with fail
      go_ret2
      exact ⟨rfl, hbl1.out.trans hK6.out.1⟩
end Go.Proofs.Ytdbdmpdfjhmfhaa
