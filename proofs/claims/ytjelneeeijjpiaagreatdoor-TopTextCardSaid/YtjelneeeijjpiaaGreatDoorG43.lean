/- TopText: walks and plain laws, part 43: lemmas on what the functions that the law comes to compute. -/
import Derived.Test.YtjelneeeijjpiaaGreatDoorG42
set_option linter.unusedVariables false
set_option linter.unusedSimpArgs false
section
namespace Go.Proofs.YtjelneeeijjpiaaGreatDoor
open Go.RowKit
open Go.Proofs.Le Go.Proofs.Lw
set_option maxRecDepth 100000 in
set_option maxHeartbeats 2000000 in
theorem law_units (t Q : ByteArray) (ht : t.size ≤ 100) (hu : Hid (uright t.data.toList = true)) (hQ : Hid (Q.data.toList = betL 34 t.data.toList)) (hQs : Q.size < 1000) (w : World) (hTb : Tab w) : Calls Tryz.prog 3 #[.string t, .bool true] w fun e w' => AwP w e w' := by
  have h1 : ¬ (100 : Int) < (t.size : Int) := by omega
  have f3 : ¬ 9223372036854775807 < 3 + t.size := by omega
  have f4 : ¬ 9223372036854775807 < 5 + Q.size := by omega
  have z4 := size4
  have v4 := conv4
  have v4d := conv4d
  go_enter Tryz.func3, Tryz.ntmps3
  go_wp2_with fail
  refine (awake_any _ (hTb.below (by (repeat' (first | refine Below.setCell ?_ (by first | (simp; done) | (simp; omega) | omega | (simp [World.setCell]; omega)) _ | refine Below.alloc ?_ (by first | (simp; done) | (simp; omega) | omega | (simp [World.setCell]; omega)) _ | refine below_drewN' ?_ _ | refine Below.drew ?_ | exact Hid.out (by assumption) | exact Below.refl _ _))))).mono ?_; rintro e w1 ⟨rfl, hb1⟩
  have s1 := hb1.size; try simp at s1
  have HB1 := bel_step (w := w) (by (repeat' (first | refine Below.setCell ?_ (by first | (simp; done) | (simp; omega) | omega | (simp [World.setCell]; omega)) _ | refine Below.alloc ?_ (by first | (simp; done) | (simp; omega) | omega | (simp [World.setCell]; omega)) _ | refine below_drewN' ?_ _ | refine Below.drew ?_ | exact Hid.out (by assumption) | exact Below.refl _ _))) hb1
  clear hb1
  go_wp2_with fail
  refine (rright_to t true (by omega) hu _).mono ?_; rintro e w2 ⟨rfl, hb2⟩
  have s2 := hb2.size; try simp at s2
  have HB2 := bel_step (w := w) (by (repeat' (first | refine Below.setCell ?_ (by first | (simp; done) | (simp; omega) | omega | (simp [World.setCell]; omega)) _ | refine Below.alloc ?_ (by first | (simp; done) | (simp; omega) | omega | (simp [World.setCell]; omega)) _ | refine below_drewN' ?_ _ | refine Below.drew ?_ | exact Hid.out (by assumption) | exact Below.refl _ _))) hb2
  clear hb2
  go_wp2_with fail
  refine (Tx.rquote_any t Q _ (by omega) hQ).mono ?_; rintro e w3 ⟨rfl, hb3⟩
  have s3 := hb3.size; try simp at s3
  have HB3 := bel_step (w := w) (by (repeat' (first | refine Below.setCell ?_ (by first | (simp; done) | (simp; omega) | omega | (simp [World.setCell]; omega)) _ | refine Below.alloc ?_ (by first | (simp; done) | (simp; omega) | omega | (simp [World.setCell]; omega)) _ | refine below_drewN' ?_ _ | refine Below.drew ?_ | exact Hid.out (by assumption) | exact Below.refl _ _))) hb3
  clear hb3
  go_wp2_with fail
  go_loopg [5, 7] t.size (fun gh v i wr => ∃ (k : Nat) (cs : List Int) (U : ByteArray), k ≤ t.size ∧ gh = t.size - k ∧ v = .string U ∧ i = .int .i64 k ∧ U.size ≤ 6 * k + 1 ∧ Hid (Us t k cs U) ∧ Hid (Below w.heap.size w wr))
  case atStart => exact ⟨0, [], _, Nat.zero_le _, rfl, rfl, rfl, by decide, Lib.hid ⟨rfl, by simp, rfl, rfl, by decide⟩, HB3⟩
  case round =>
    obtain ⟨k, cs, U, hk, rfl, rfl, rfl, hUs, hU, hB⟩ := hrel
    clear HB1 HB2 HB3 s1 s2 s3 h1
    have hBr : w.heap.size ≤ wr.heap.size := hB.out.size
    by_cases hlt : k < t.size
    · have hki : (k : Int) < (t.size : Int) := by omega
      obtain ⟨c, n, hcn⟩ : ∃ c n, uscal (t.data.toList.drop k) = (c, n) := ⟨_, _, rfl⟩
      obtain ⟨hn, hkn⟩ := scal_next t k hlt hu.out hU.out.z c n hcn
      obtain ⟨C, rfl⟩ := scal_nat _ c n hcn hn
      have HC := Lib.hid hcn
      clear hcn
      by_cases hC : 65535 < C
      · have hCi : (65535 : Int) < (C : Int) := by omega
        have hX : Hid ((strOfNums (putN (C : Int))).data.toList = unB (C : Int)) := Lib.hid (by rw [unB, if_pos hCi]; rw [strOfNums_data]; rfl)
        have hs4 := Tx.strOf_size (C : Int)
        have f5 : ¬ 9223372036854775807 < U.size + (strOfNums (putN (C : Int))).size := by omega
        go_wp2_with fail
        refine (Tx.rscalar_at t k C n _ HC).mono ?_; rintro e w4 ⟨rfl, hb⟩
        have HB4 : Hid (Below w.heap.size w w4) := Lib.hid (hB.out.trans (hb.mono hBr))
        clear hb
        go_wp2_with fail
        refine (Tx.rput_any (C : Int) _).mono ?_; rintro e w5 ⟨rfl, hb⟩
        have HB5 : Hid (Below w.heap.size w w5) := Lib.hid (HB4.out.trans (hb.mono HB4.out.size))
        clear hb
        go_wp2_with fail
        go_roundg (t.size - (k + n))
        case measure => go_light; omega
        case rel => go_light; exact ⟨k + n, cs ++ [(C : Int)], _, hkn, rfl, rfl, by go_num, (hU.out.next hk HC.out hn hX.out).s, Lib.hid (hU.out.next hk HC.out hn hX.out), HB5⟩
      · have hCi : ¬ (65535 : Int) < (C : Int) := by omega
        have HQ := uq_of C (by omega)
        generalize C / 4096 = d0 at HQ
        generalize C / 256 % 16 = d1 at HQ
        generalize C / 16 % 16 = d2 at HQ
        generalize C % 16 = d3 at HQ
        have hX : Hid (((⟨#[92, 117]⟩ ++ strOfNums [((Tx.hexS[d0]'HQ.h0).toNat : Int), ((Tx.hexS[d1]'HQ.h1).toNat : Int), ((Tx.hexS[d2]'HQ.h2).toNat : Int), ((Tx.hexS[d3]'HQ.h3).toNat : Int)] : ByteArray)).data.toList = unB (C : Int)) := Lib.hid (uq_str HQ)
        have e0 := HQ.e0
        have e1 := HQ.e1
        have e2 := HQ.e2
        have e3 := HQ.e3
        have g0 : (d0 : Int) < 16 := by have := HQ.h0; omega
        have g1 : (d1 : Int) < 16 := by have := HQ.h1; omega
        have g2 : (d2 : Int) < 16 := by have := HQ.h2; omega
        have g3 : (d3 : Int) < 16 := by have := HQ.h3; omega
        have gn0 := HQ.h0
        have gn1 := HQ.h1
        have gn2 := HQ.h2
        have gn3 := HQ.h3
        have f5 : ¬ 9223372036854775807 < U.size + 6 := by omega
        have f6 : ¬ 9223372036854775807 < U.size + (2 + 4) := by omega
        go_wp2_with fail
        refine (Tx.rscalar_at t k C n _ HC).mono ?_; rintro e w4 ⟨rfl, hb⟩
        have HB4 : Hid (Below w.heap.size w w4) := Lib.hid (hB.out.trans (hb.mono hBr))
        have hB4 := HB4.out.size
        clear hb
        go_wp2_with fail
        go_region_with (fail)
        all_goals
          go_wp2_with fail
          go_roundg (t.size - (k + n))
          case measure => go_light; omega
          case rel => go_light; exact ⟨k + n, cs ++ [(C : Int)], _, hkn, rfl, rfl, by go_num, (hU.out.next hk HC.out hn hX.out).s, Lib.hid (hU.out.next hk HC.out hn hX.out), Lib.hid (by first | exact (HB4.out.alloc hB4 _).drew | exact HB4.out.drew.alloc hB4 _ | exact HB4.out.alloc hB4 _)⟩
    · have hki : ¬ (k : Int) < (t.size : Int) := by omega
      obtain rfl : k = t.size := by omega
      have hD0 := us_done hU.out rfl
      have hUs := hU.out.s
      obtain ⟨q, hq⟩ : ∃ q : ByteArray, U ++ ⟨#[34]⟩ = q := ⟨_, rfl⟩
      have hqs : q.size = U.size + 1 := by rw [← hq, ByteArray.size_append]; rfl
      rw [hq] at hD0
      have hD := Lib.hid hD0
      have f5 : ¬ 9223372036854775807 < U.size + 1 := by omega
      have f6 : ¬ 9223372036854775807 < 1 + q.size := by omega
      have f7 : ¬ 9223372036854775807 < 1 + q.size + 1 := by omega
      have hq1 : q.size < 1000 := by omega
      clear hqs hD0 hU
      go_wp2_with fail
      refine (run_q q t Q (hq1) ht (hD.out.1) (hD.out.2) hu.out hQ.out hQs _ 2 _ (hTb.below (by (repeat' (first | refine Below.setCell ?_ (by first | (simp; done) | (simp; omega) | omega | (simp [World.setCell]; omega)) _ | refine Below.alloc ?_ (by first | (simp; done) | (simp; omega) | omega | (simp [World.setCell]; omega)) _ | refine below_drewN' ?_ _ | refine Below.drew ?_ | exact Hid.out (by assumption) | exact Below.refl _ _)))) (by simp) (by simp [go_sem]) (by simp [go_sem])).mono ?_; rintro e w20 ⟨g, cc, rfl, ⟨gl, gc0, gc1⟩, hb⟩
      have HB20 := bel_step (w := w) (by (repeat' (first | refine Below.setCell ?_ (by first | (simp; done) | (simp; omega) | omega | (simp [World.setCell]; omega)) _ | refine Below.alloc ?_ (by first | (simp; done) | (simp; omega) | omega | (simp [World.setCell]; omega)) _ | refine below_drewN' ?_ _ | refine Below.drew ?_ | exact Hid.out (by assumption) | exact Below.refl _ _))) hb
      have HG : Hid (Gd w20 g (⟨#[111, 107, 32]⟩ ++ t) (⟨#[111, 107, 32, 49, 10]⟩ ++ Q) w20) := Lib.hid ⟨Below.refl _ _, gl, gc0, gc1⟩
      clear hb
      go_wp2_with fail
      go_region_held3 (fun w' => w'.cell? ⟨g, 0, none⟩ = some (.string (⟨#[111, 107, 32]⟩ ++ t)) ∧ w'.cell? ⟨g, 1, none⟩ = some (.string (⟨#[111, 107, 32, 49, 10]⟩ ++ Q)) ∧ Hid (Gd w20 g (⟨#[111, 107, 32]⟩ ++ t) (⟨#[111, 107, 32, 49, 10]⟩ ++ Q) w')) (first | exact gd_held (by repeat' (first | assumption | refine gd_drew ?_ | refine gd_alloc ?_ _))) (first | (go_at_call 6; refine (Tx.rquote_any t Q _ (by omega) hQ).mono ?_; rintro e w9 ⟨rfl, hb⟩; have HB9 := bel_step (w := w20) (by (repeat' (first | refine Below.setCell ?_ (by first | (simp; done) | (simp; omega) | omega | (simp [World.setCell]; omega)) _ | refine Below.alloc ?_ (by first | (simp; done) | (simp; omega) | omega | (simp [World.setCell]; omega)) _ | refine below_drewN' ?_ _ | refine Below.drew ?_ | exact Hid.out (by assumption) | exact Below.refl _ _))) hb; have HG9 : Hid (Gd w20 g (⟨#[111, 107, 32]⟩ ++ t) (⟨#[111, 107, 32, 49, 10]⟩ ++ Q) w9) := gd_below HG HB9.out; clear hb HB9))
      go_wp2_with fail
      go_ret
      exact ⟨rfl, HB20.out.trans ((Hid.out (by assumption) : Gd w20 g (⟨#[111, 107, 32]⟩ ++ t) (⟨#[111, 107, 32, 49, 10]⟩ ++ Q) _).bel.mono HB20.out.size)⟩
end Go.Proofs.YtjelneeeijjpiaaGreatDoor
end
