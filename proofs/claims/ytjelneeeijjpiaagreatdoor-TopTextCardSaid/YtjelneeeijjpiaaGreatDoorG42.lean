/- TopText: walks and plain laws, part 42: lemmas on what the functions that the law comes to compute. -/
import Derived.Test.YtjelneeeijjpiaaGreatDoorG41
set_option linter.unusedVariables false
set_option linter.unusedSimpArgs false
section
namespace Go.Proofs.YtjelneeeijjpiaaGreatDoor
open Go.RowKit
open Go.Proofs.Le Go.Proofs.Lw
theorem textL_eq (L : List (Int × Int)) : Tx.textL L = textP L := by
  induction L with
  | nil => rfl
  | cons x L ih => rw [Tx.textL, textP, ih]; rfl
theorem txt_of (q t : ByteArray) (hs : q.size ≤ 100000) (h : OkL q.data.toList) (ht : textP (charsL q.data.toList) = t.data.toList) : TxtP q t := fun W =>
  Tx.text_any q hs true (Lib.hid ⟨fun _ => h, fun _ => rfl⟩) t (Lib.hid (by rw [if_pos rfl, textL_eq, ht])) 0 (Lib.hid rfl) W
theorem rright_to (t : ByteArray) (R : Bool) (ht : t.size ≤ 100000) (hu : Hid (uright t.data.toList = R)) (w : World) : Calls Tryz.prog 5 #[.string t] w fun e w' => e = .returned (.bool R) ∧ Below w.heap.size w w' :=
  (Tx.rright_any t w (by unfold maxLen; omega)).mono fun e w' ⟨a, b⟩ => ⟨by rw [a, hu.out], b⟩
theorem okq (Q : ByteArray) : ((⟨#[111, 107, 32, 49]⟩ ++ (⟨#[10]⟩ ++ Q) : ByteArray)) = ⟨#[111, 107, 32, 49, 10]⟩ ++ Q := by
  rw [← ByteArray.append_assoc]; rfl
structure Gd (w0 : World) (g : Nat) (A B : ByteArray) (W : World) : Prop where
  bel : Below w0.heap.size w0 W
  lt : g < W.heap.size
  c0 : W.cell? ⟨g, 0, none⟩ = some (.string A)
  c1 : W.cell? ⟨g, 1, none⟩ = some (.string B)
theorem gd_below {w0 W W' : World} {g : Nat} {A B : ByteArray} (h : Hid (Gd w0 g A B W)) (hb : Below W.heap.size W W') : Hid (Gd w0 g A B W') := Lib.hid ⟨h.out.bel.trans (hb.mono h.out.bel.size), Nat.lt_of_lt_of_le h.out.lt hb.size, (hb.cell (p := ⟨g, 0, none⟩) h.out.lt).trans h.out.c0, (hb.cell (p := ⟨g, 1, none⟩) h.out.lt).trans h.out.c1⟩
theorem gd_drew {w0 W : World} {g : Nat} {A B : ByteArray} (h : Hid (Gd w0 g A B W)) : Hid (Gd w0 g A B W.drew) := gd_below h (Below.refl _ _).drew
theorem gd_alloc {w0 W : World} {g : Nat} {A B : ByteArray} (h : Hid (Gd w0 g A B W)) (o : Obj) : Hid (Gd w0 g A B (W.alloc o)) := gd_below h ((Below.refl _ _).alloc (Nat.le_refl _) o)
theorem gd_held {w0 W : World} {g : Nat} {A B : ByteArray} (h : Hid (Gd w0 g A B W)) : W.cell? ⟨g, 0, none⟩ = some (.string A) ∧ W.cell? ⟨g, 1, none⟩ = some (.string B) ∧ Hid (Gd w0 g A B W) := ⟨h.out.c0, h.out.c1, h⟩
theorem run_q (q t Q : ByteArray) (hq : q.size < 1000) (ht : t.size ≤ 100) (hok : OkL q.data.toList) (htx : textP (charsL q.data.toList) = t.data.toList) (hu : uright t.data.toList = true) (hQ : Q.data.toList = betL 34 t.data.toList) (hQs : Q.size < 1000) (ln lc : Nat) (W : World) (h : Tab W) (ll : ln < W.heap.size) (hl0 : W.cell? ⟨ln, 0, none⟩ = some (.string ⟨#[116, 101, 120, 116, 32, 48, 32, 36, 91, 48, 93]⟩)) (hl1 : W.cell? ⟨ln, 1, none⟩ = some (.string ⟨#[118, 97, 108, 117, 101, 115, 32, 48, 32, 49, 32, 36, 91, 48, 93]⟩)) :
    Calls Tryz.prog 9 #[.agg #[.string (brk q), .int .i64 1, .string ⟨#[]⟩, .slice (some ⟨ln, 0, none⟩) 2 lc]] W fun e w' => Runs2 W (⟨#[111, 107, 32]⟩ ++ t) (⟨#[111, 107, 32, 49, 10]⟩ ++ Q) e w' := by
  have S := str_of q hok hq
  have hTx := txt_of q t (by omega) hok htx
  have hQu : QuoP t Q := fun W => Tx.quote_any t Q W (by omega) (Lib.hid hu) (Lib.hid hQ)
  have := run_2 (brk q) (q.size + 2) (q.size + 1) 34 S.sc S.nl 1 (by decide) (by decide) S.ms ln lc q S.doc 3 S.pos S.mark (.inr (.inl ⟨rfl, rfl⟩)) (by decide) Q (by omega) rfl t hTx (by omega) W h ll hl0 hl1 (fun p W h W' hW => leaf_s p _ _ (brk q) q S.doc S.pos S.mark t hTx Q hQu W' (h.below hW))
  rw [okq] at this
  exact this
set_option maxRecDepth 100000 in
set_option maxHeartbeats 2000000 in
theorem law_long (t : ByteArray) (u : Bool) (ht : ¬ t.size ≤ 100) (w : World) (hTb : Tab w) : Calls Tryz.prog 3 #[.string t, .bool u] w fun e w' => AwP w e w' := by
  have h1 : (100 : Int) < (t.size : Int) := by omega
  go_enter Tryz.func3, Tryz.ntmps3
  go_wp2_with fail
  refine (awake_any _ (hTb.below (by (repeat' (first | refine Below.setCell ?_ (by first | (simp; done) | (simp; omega) | omega | (simp [World.setCell]; omega)) _ | refine Below.alloc ?_ (by first | (simp; done) | (simp; omega) | omega | (simp [World.setCell]; omega)) _ | refine below_drewN' ?_ _ | refine Below.drew ?_ | exact Hid.out (by assumption) | exact Below.refl _ _))))).mono ?_; rintro e w1 ⟨rfl, hb1⟩
  have s1 := hb1.size; try simp at s1
  have HB1 := bel_step (w := w) (by (repeat' (first | refine Below.setCell ?_ (by first | (simp; done) | (simp; omega) | omega | (simp [World.setCell]; omega)) _ | refine Below.alloc ?_ (by first | (simp; done) | (simp; omega) | omega | (simp [World.setCell]; omega)) _ | refine below_drewN' ?_ _ | refine Below.drew ?_ | exact Hid.out (by assumption) | exact Below.refl _ _))) hb1
  clear hb1
  go_wp2_with fail
  refine (awake_any _ (hTb.below (by (repeat' (first | refine Below.setCell ?_ (by first | (simp; done) | (simp; omega) | omega | (simp [World.setCell]; omega)) _ | refine Below.alloc ?_ (by first | (simp; done) | (simp; omega) | omega | (simp [World.setCell]; omega)) _ | refine below_drewN' ?_ _ | refine Below.drew ?_ | exact Hid.out (by assumption) | exact Below.refl _ _))))).mono ?_; rintro e w2 ⟨rfl, hb2⟩
  have s2 := hb2.size; try simp at s2
  have HB2 := bel_step (w := w) (by (repeat' (first | refine Below.setCell ?_ (by first | (simp; done) | (simp; omega) | omega | (simp [World.setCell]; omega)) _ | refine Below.alloc ?_ (by first | (simp; done) | (simp; omega) | omega | (simp [World.setCell]; omega)) _ | refine below_drewN' ?_ _ | refine Below.drew ?_ | exact Hid.out (by assumption) | exact Below.refl _ _))) hb2
  clear hb2
  go_wp2_with fail
  go_ret
  exact ⟨rfl, by (repeat' (first | refine Below.setCell ?_ (by first | (simp; done) | (simp; omega) | omega | (simp [World.setCell]; omega)) _ | refine Below.alloc ?_ (by first | (simp; done) | (simp; omega) | omega | (simp [World.setCell]; omega)) _ | refine below_drewN' ?_ _ | refine Below.drew ?_ | exact Hid.out (by assumption) | exact Below.refl _ _))⟩
set_option maxRecDepth 100000 in
set_option maxHeartbeats 2000000 in
theorem law_no (t : ByteArray) (u : Bool) (ht : t.size ≤ 100) (hu : Hid (uright t.data.toList = false)) (w : World) (hTb : Tab w) : Calls Tryz.prog 3 #[.string t, .bool u] w fun e w' => AwP w e w' := by
  have h1 : ¬ (100 : Int) < (t.size : Int) := by omega
  go_enter Tryz.func3, Tryz.ntmps3
  go_wp2_with fail
  refine (awake_any _ (hTb.below (by (repeat' (first | refine Below.setCell ?_ (by first | (simp; done) | (simp; omega) | omega | (simp [World.setCell]; omega)) _ | refine Below.alloc ?_ (by first | (simp; done) | (simp; omega) | omega | (simp [World.setCell]; omega)) _ | refine below_drewN' ?_ _ | refine Below.drew ?_ | exact Hid.out (by assumption) | exact Below.refl _ _))))).mono ?_; rintro e w1 ⟨rfl, hb1⟩
  have s1 := hb1.size; try simp at s1
  have HB1 := bel_step (w := w) (by (repeat' (first | refine Below.setCell ?_ (by first | (simp; done) | (simp; omega) | omega | (simp [World.setCell]; omega)) _ | refine Below.alloc ?_ (by first | (simp; done) | (simp; omega) | omega | (simp [World.setCell]; omega)) _ | refine below_drewN' ?_ _ | refine Below.drew ?_ | exact Hid.out (by assumption) | exact Below.refl _ _))) hb1
  clear hb1
  go_wp2_with fail
  refine (rright_to t false (by omega) hu _).mono ?_; rintro e w2 ⟨rfl, hb2⟩
  have s2 := hb2.size; try simp at s2
  have HB2 := bel_step (w := w) (by (repeat' (first | refine Below.setCell ?_ (by first | (simp; done) | (simp; omega) | omega | (simp [World.setCell]; omega)) _ | refine Below.alloc ?_ (by first | (simp; done) | (simp; omega) | omega | (simp [World.setCell]; omega)) _ | refine below_drewN' ?_ _ | refine Below.drew ?_ | exact Hid.out (by assumption) | exact Below.refl _ _))) hb2
  clear hb2
  go_wp2_with fail
  refine (awake_any _ (hTb.below (by (repeat' (first | refine Below.setCell ?_ (by first | (simp; done) | (simp; omega) | omega | (simp [World.setCell]; omega)) _ | refine Below.alloc ?_ (by first | (simp; done) | (simp; omega) | omega | (simp [World.setCell]; omega)) _ | refine below_drewN' ?_ _ | refine Below.drew ?_ | exact Hid.out (by assumption) | exact Below.refl _ _))))).mono ?_; rintro e w3 ⟨rfl, hb3⟩
  have s3 := hb3.size; try simp at s3
  have HB3 := bel_step (w := w) (by (repeat' (first | refine Below.setCell ?_ (by first | (simp; done) | (simp; omega) | omega | (simp [World.setCell]; omega)) _ | refine Below.alloc ?_ (by first | (simp; done) | (simp; omega) | omega | (simp [World.setCell]; omega)) _ | refine below_drewN' ?_ _ | refine Below.drew ?_ | exact Hid.out (by assumption) | exact Below.refl _ _))) hb3
  clear hb3
  go_wp2_with fail
  go_ret
  exact ⟨rfl, by (repeat' (first | refine Below.setCell ?_ (by first | (simp; done) | (simp; omega) | omega | (simp [World.setCell]; omega)) _ | refine Below.alloc ?_ (by first | (simp; done) | (simp; omega) | omega | (simp [World.setCell]; omega)) _ | refine below_drewN' ?_ _ | refine Below.drew ?_ | exact Hid.out (by assumption) | exact Below.refl _ _))⟩
set_option maxRecDepth 100000 in
set_option maxHeartbeats 2000000 in
theorem law_quote (t Q : ByteArray) (ht : t.size ≤ 100) (hu : Hid (uright t.data.toList = true)) (hQ : Hid (Q.data.toList = betL 34 t.data.toList)) (hQs : Q.size < 1000) (w : World) (hTb : Tab w) : Calls Tryz.prog 3 #[.string t, .bool false] w fun e w' => AwP w e w' := by
  have h1 : ¬ (100 : Int) < (t.size : Int) := by omega
  have f1 : ¬ 9223372036854775807 < 1 + Q.size := by omega
  have f2 : ¬ 9223372036854775807 < 1 + Q.size + 1 := by omega
  have f3 : ¬ 9223372036854775807 < 3 + t.size := by omega
  have f4 : ¬ 9223372036854775807 < 5 + Q.size := by omega
  have HK := Lib.hid (quote_ok t.data.toList hu.out)
  go_enter Tryz.func3, Tryz.ntmps3
  go_wp2_with fail
  refine (awake_any _ (hTb.below (by (repeat' (first | refine Below.setCell ?_ (by first | (simp; done) | (simp; omega) | omega | (simp [World.setCell]; omega)) _ | refine Below.alloc ?_ (by first | (simp; done) | (simp; omega) | omega | (simp [World.setCell]; omega)) _ | refine below_drewN' ?_ _ | refine Below.drew ?_ | exact Hid.out (by assumption) | exact Below.refl _ _))))).mono ?_; rintro e w1 ⟨rfl, hb1⟩
  have s1 := hb1.size; try simp at s1
  have HB1 := bel_step (w := w) (by (repeat' (first | refine Below.setCell ?_ (by first | (simp; done) | (simp; omega) | omega | (simp [World.setCell]; omega)) _ | refine Below.alloc ?_ (by first | (simp; done) | (simp; omega) | omega | (simp [World.setCell]; omega)) _ | refine below_drewN' ?_ _ | refine Below.drew ?_ | exact Hid.out (by assumption) | exact Below.refl _ _))) hb1
  clear hb1
  go_wp2_with fail
  refine (rright_to t true (by omega) hu _).mono ?_; rintro e w2 ⟨rfl, hb2⟩
  have s2 := hb2.size; try simp at s2
  have HB2 := bel_step (w := w) (by (repeat' (first | refine Below.setCell ?_ (by first | (simp; done) | (simp; omega) | omega | (simp [World.setCell]; omega)) _ | refine Below.alloc ?_ (by first | (simp; done) | (simp; omega) | omega | (simp [World.setCell]; omega)) _ | refine below_drewN' ?_ _ | refine Below.drew ?_ | exact Hid.out (by assumption) | exact Below.refl _ _))) hb2
  clear hb2
  go_wp2_with fail
  refine (Tx.rquote_any t Q _ (by omega) hQ).mono ?_; rintro e w3 ⟨rfl, hb3⟩
  have s3 := hb3.size; try simp at s3
  have HB3 := bel_step (w := w) (by (repeat' (first | refine Below.setCell ?_ (by first | (simp; done) | (simp; omega) | omega | (simp [World.setCell]; omega)) _ | refine Below.alloc ?_ (by first | (simp; done) | (simp; omega) | omega | (simp [World.setCell]; omega)) _ | refine below_drewN' ?_ _ | refine Below.drew ?_ | exact Hid.out (by assumption) | exact Below.refl _ _))) hb3
  clear hb3
  go_wp2_with fail
  refine (run_q Q t Q (hQs) ht (by rw [hQ.out]; exact HK.out.1) (by rw [hQ.out]; exact HK.out.2) hu.out hQ.out hQs _ 2 _ (hTb.below (by (repeat' (first | refine Below.setCell ?_ (by first | (simp; done) | (simp; omega) | omega | (simp [World.setCell]; omega)) _ | refine Below.alloc ?_ (by first | (simp; done) | (simp; omega) | omega | (simp [World.setCell]; omega)) _ | refine below_drewN' ?_ _ | refine Below.drew ?_ | exact Hid.out (by assumption) | exact Below.refl _ _)))) (by simp) (by simp [go_sem]) (by simp [go_sem])).mono ?_; rintro e w20 ⟨g, cc, rfl, ⟨gl, gc0, gc1⟩, hb⟩
  have HB20 := bel_step (w := w) (by (repeat' (first | refine Below.setCell ?_ (by first | (simp; done) | (simp; omega) | omega | (simp [World.setCell]; omega)) _ | refine Below.alloc ?_ (by first | (simp; done) | (simp; omega) | omega | (simp [World.setCell]; omega)) _ | refine below_drewN' ?_ _ | refine Below.drew ?_ | exact Hid.out (by assumption) | exact Below.refl _ _))) hb
  have HG : Hid (Gd w20 g (⟨#[111, 107, 32]⟩ ++ t) (⟨#[111, 107, 32, 49, 10]⟩ ++ Q) w20) := Lib.hid ⟨Below.refl _ _, gl, gc0, gc1⟩
  clear hb
  go_wp2_with fail
  go_region_held3 (fun w' => w'.cell? ⟨g, 0, none⟩ = some (.string (⟨#[111, 107, 32]⟩ ++ t)) ∧ w'.cell? ⟨g, 1, none⟩ = some (.string (⟨#[111, 107, 32, 49, 10]⟩ ++ Q)) ∧ Hid (Gd w20 g (⟨#[111, 107, 32]⟩ ++ t) (⟨#[111, 107, 32, 49, 10]⟩ ++ Q) w')) (first | exact gd_held (by repeat' (first | assumption | refine gd_drew ?_ | refine gd_alloc ?_ _))) (first | (go_at_call 6; refine (Tx.rquote_any t Q _ (by omega) hQ).mono ?_; rintro e w9 ⟨rfl, hb⟩; have HB9 := bel_step (w := w20) (by (repeat' (first | refine Below.setCell ?_ (by first | (simp; done) | (simp; omega) | omega | (simp [World.setCell]; omega)) _ | refine Below.alloc ?_ (by first | (simp; done) | (simp; omega) | omega | (simp [World.setCell]; omega)) _ | refine below_drewN' ?_ _ | refine Below.drew ?_ | exact Hid.out (by assumption) | exact Below.refl _ _))) hb; have HG9 : Hid (Gd w20 g (⟨#[111, 107, 32]⟩ ++ t) (⟨#[111, 107, 32, 49, 10]⟩ ++ Q) w9) := gd_below HG HB9.out; clear hb HB9))
  go_wp2_with fail
  go_ret
  exact ⟨rfl, HB20.out.trans ((Hid.out (by assumption) : Gd w20 g (⟨#[111, 107, 32]⟩ ++ t) (⟨#[111, 107, 32, 49, 10]⟩ ++ Q) _).bel.mono HB20.out.size)⟩
end Go.Proofs.YtjelneeeijjpiaaGreatDoor
end
