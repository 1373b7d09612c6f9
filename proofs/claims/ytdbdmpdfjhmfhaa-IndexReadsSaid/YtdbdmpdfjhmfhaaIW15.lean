/- The walk of the reference's Read: the table. -/
import Derived.Test.YtdbdmpdfjhmfhaaIW15a
namespace Go.Proofs.Ytdbdmpdfjhmfhaa
open Go.RowKit Go.Proofs.Lx

set_option maxRecDepth 100000 in
set_option maxHeartbeats 4000000 in
theorem rread_main (s : ByteArray) (n : Nat) (w : World) (hn : (s.size : Int) = n + 8) (hs : ¬ s.size < 40) (hs2 : s.size ≤ 10000) (sv : Nat) (hv : Hid (sumL (s.extract 0 n).data.toList = sv)) (E : ByteArray) (hE : Hid (mk (eight sv) = E)) (hne : (E.toList == (s.extract n s.size).toList) = true)
    (N D Z : Int) (hN : Hid (numR 4096 24 (s.extract 0 n) = N)) (hD : Hid (numR 4096 8 (s.extract 0 n) = D)) (hZ : Hid (numR 1048576 16 (s.extract 0 n) = Z)) (R : Option (Nat × List En)) (hR : Hid (refP (s.extract 0 n) N.toNat 32 [] = R))
    (L : List En) (ok : Bool) (d z : Nat) (hok : Hid (ok = true → 0 ≤ N ∧ R = some (n, L) ∧ D = d ∧ Z = z ∧ FormedT d z L ∧ headB d z L = (s.extract 0 n).data.toList))
    (hno : Hid (ok = false → ¬ ∃ (d z : Nat) (L : List En), FormedT d z L ∧ headB d z L = (s.extract 0 n).data.toList)) :
    Calls Try.prog 14 #[.string s] w fun e w' => ReadOut w ok d z L e w' := by
  obtain ⟨i0, hi0, hz0, hz1, hz2⟩ := info_parts info30
  have k0 : (s.size : Int) - 8 = (n : Int) := by omega
  have k1 : (0 : Int) ≤ (n : Int) := by omega
  have k2 : (n : Int) ≤ (s.size : Int) := by omega
  have hzz : (s.extract 0 n).size = n := by simp; omega
  have hn32 : 32 ≤ n := by omega
  have hn1 : n ≤ 10000 := by omega
  clear hn
  go_enter Try.func14, Try.ntmps14
  go_wp2_with fail
  have HN := Lib.hid (NB.start w)
  have HNd := Lib.hid (HN.out.next ((Below.refl _ _).drew))
  go_region_held3 (fun w' => Hid (NB w w')) (first | assumption | exact HNd)
    (first | (go_at_call 12; refine (rsum_to _ sv _ (by simp; unfold maxLen; omega) hv).mono ?_; rintro e w5 ⟨rfl, rfl⟩)
           | (go_at_call 11; refine (eight_of sv E _ hE).mono ?_; rintro e w5 ⟨rfl, hb⟩; have HX := Lib.hid (NB.next (Hid.out (by assumption)) hb); clear hb))
  clear HN HNd
  go_wp2_with fail
  generalize s.extract 0 n = h at *
  refine (rnum_to h 24 4096 _ (by omega) (by omega) (by omega) _ _ rfl rfl N hN).mono ?_; rintro x w1 ⟨rfl, rfl⟩
  go_wp2_with fail
  refine (rnum_to h 8 4096 _ (by omega) (by omega) (by omega) _ _ rfl rfl D hD).mono ?_; rintro x w1 ⟨rfl, rfl⟩
  go_wp2_with fail
  refine (rnum_to h 16 1048576 _ (by omega) (by omega) (by omega) _ _ rfl rfl Z hZ).mono ?_; rintro x w1 ⟨rfl, rfl⟩
  go_wp2_with fail
  have HI := Lib.hid (RI.start D Z HX.out)
  obtain ⟨tb, htb⟩ : ∃ tb, tb = w1.heap.size := ⟨_, rfl⟩
  rw [← htb] at HI ⊢
  clear htb
  go_loopg [9, 10] N.toNat (fun g v9 v10 wr => ∃ (i p : Nat) (v' : Value) (L' : List En), g = N.toNat - i ∧ i ≤ N.toNat ∧ v9 = .int .i64 p ∧ v10 = .int .i64 i ∧ p ≤ 10000 ∧ Hid (L'.length = i ∧ p = 32 + lens L') ∧ Hid (refP h (N.toNat - i) p L' = R) ∧ Hid (RI w wr tb D Z v' L'))
  case atStart => exact ⟨0, 32, _, [], by omega, by omega, rfl, rfl, by omega, Lib.hid ⟨rfl, rfl⟩, hR, HI⟩
  case round =>
    clear hR HI HX
    obtain ⟨i, p, v', L', rfl, hi, rfl, rfl, hp, hL, hP, hI⟩ := hrel
    by_cases hlt : (i : Int) < N
    · have hdk : decide ((i : Int) < N) = true := by rw [decide_eq_true_eq]; exact hlt
      have hK : ∃ m, N.toNat - i = m + 1 ∧ N.toNat - (i + 1) = m := ⟨N.toNat - (i + 1), by omega, rfl⟩
      obtain ⟨m, hm, hm1⟩ := hK
      have hPm : Hid (refP h (m + 1) p L' = R) := Lib.hid (by rw [← hm]; exact hP.out)
      obtain ⟨⟨t0, t1, t2⟩, tf, ⟨d0, d1, d2⟩, ⟨c0, c1, c2⟩, ⟨f0, f1, f2⟩⟩ := hI.out.cells
      have hnil : Hid (R = none → ok = false) := Lib.hid (by
        intro hr
        cases hk : ok
        · rfl
        · have := (hok.out hk).2.1; rw [hr] at this; exact absurd this (by simp))
      by_cases hA : n < p + 33
      · have hA1 : (n : Int) - (p : Int) < 33 := by omega
        have hA2 : decide ((n : Int) - (p : Int) < 33) = true := by rw [decide_eq_true_eq]; omega
        have hRn := Lib.hid (hnil.out (by rw [← hPm.out]; exact refP_none (.inl (by omega))))
        go_wp2_with fail
        exact bodyPost_ret (v := .tuple #[.agg Zt, .int .i64 3]) (by simp [results, Try.results14, go_sem, c0, c1, c2]) rfl (ReadOut.no hRn.out (ReadPost.zero rfl (fin3 hI.out.2.2.2.2.2 _ _ _)))
      · have hA1 : ¬ (n : Int) - (p : Int) < 33 := by omega
        have hA2 : decide ((n : Int) - (p : Int) < 33) = false := by rw [decide_eq_false_iff_not]; omega
        obtain ⟨LK, hLK⟩ : ∃ LK, lenR h p = LK := ⟨_, rfl⟩
        have HLK := Lib.hid hLK
        clear hLK
        by_cases hB : LK < 0 ∨ (n : Int) - p - 33 < LK
        · have hRn := Lib.hid (hnil.out (by rw [← hPm.out]; exact refP_none (.inr (by rw [HLK.out]; omega))))
          have hB1 : LK < 0 ∨ ¬ LK < 0 ∧ (n : Int) - p - 33 < LK := by omega
          clear hB
          rcases hB1 with hB1 | ⟨hB1, hB2⟩
          · go_wp2_with fail
            refine (rnum_to h (p + 25) 1048576 _ (by omega) (by omega) (by omega) _ _ (by simp) rfl LK HLK).mono ?_; rintro x w4 ⟨rfl, rfl⟩
            go_wp2_with fail
            exact bodyPost_ret (v := .tuple #[.agg Zt, .int .i64 3]) (by simp [results, Try.results14, go_sem, c0, c1, c2]) rfl (ReadOut.no hRn.out (ReadPost.zero rfl (fin3 hI.out.2.2.2.2.2 _ _ _)))
          · go_wp2_with fail
            refine (rnum_to h (p + 25) 1048576 _ (by omega) (by omega) (by omega) _ _ (by simp) rfl LK HLK).mono ?_; rintro x w4 ⟨rfl, rfl⟩
            go_wp2_with fail
            exact bodyPost_ret (v := .tuple #[.agg Zt, .int .i64 3]) (by simp [results, Try.results14, go_sem, c0, c1, c2]) rfl (ReadOut.no hRn.out (ReadPost.zero rfl (fin3 hI.out.2.2.2.2.2 _ _ _)))
        · have hB1 : ¬ LK < 0 := by omega
          obtain ⟨y, rfl⟩ := Int.eq_ofNat_of_zero_le (show 0 ≤ LK by omega)
          have hB2 : ¬ (n : Int) - p - 33 < (y : Int) := by omega
          have hPs : Hid (refP h m (p + 33 + y) (L' ++ [entR h p y]) = R) := Lib.hid (by rw [← hPm.out]; exact (refP_step (by omega) HLK.out (by omega)).symm)
          clear hB hP hPm c0 c1 c2 d0 d1 d2 f0 f1 f2
          go_wp2_with fail
          refine (rnum_to h (p + 25) 1048576 _ (by omega) (by omega) (by omega) _ _ (by simp) rfl (y : Int) HLK).mono ?_; rintro x w4 ⟨rfl, rfl⟩
          have j1 : (0 : Int) ≤ (p : Int) + 16 := by omega
          have j2 : (p : Int) + 16 < (n : Int) := by omega
          have j3 : (0 : Int) ≤ (p : Int) + 33 := by omega
          have j4 : (p : Int) + 33 ≤ (p : Int) + 33 + (y : Int) := by omega
          have j5 : (p : Int) + 33 + (y : Int) ≤ (n : Int) := by omega
          go_wp2_with fail
          have hy : y ≤ 10000 := by omega
          have HBd : Hid (Below w4.heap.size w4 w4.drew) := Lib.hid (Below.refl _ _).drew
          have o1 := wrap_near p 8 hp (by decide)
          have o2 := wrap_near p 16 hp (by decide)
          have o3 := wrap_near p 17 hp (by decide)
          have o4 := wrap_near p 33 hp (by decide)
          have o5 := wrap_near2 p y hp hy
          go_region_held3 (fun w' => Hid (Below w4.heap.size w4 w')) (first | assumption | exact held_alloc (by assumption) _ | exact held_new _)
            (first | (go_at_call 27; refine (rnum_int h _ _ _ (by clear o1 o2 o3 o4 o5; omega) (by clear o1 o2 o3 o4 o5; omega) (by clear o1 o2 o3 o4 o5; omega) (by decide) (by decide)).mono ?_; rintro e w5 ⟨rfl, rfl⟩))
          all_goals
            generalize hw5 : (w4.alloc (.cells _ 30)).drew = w5 at *
            have HB5 : Hid (Below w4.heap.size w4 w5) := by assumption
            have HX5 : Hid (BK w5 w4.heap.size (xCells (entR h p y)) 30) := by rw [← hw5]; exact ent_block w4 h p y (by clear o1 o2 o3 o4 o5; omega) _
            clear hw5 o1 o2 o3 o4 o5 t0 t1 t2 tf HBd
            have HI5 := Lib.hid (hI.out.below HB5.out)
            obtain ⟨x, hx⟩ : ∃ x, entR h p y = x := ⟨_, rfl⟩
            have HXs : Hid (x.bytes.size = y) := Lib.hid (by rw [← hx]; simp [entR]; omega)
            rw [hx] at HX5 hPs
            clear hx
            obtain ⟨⟨t0, t1, t2⟩, tf, _, _, _⟩ := HI5.out.cells
            obtain ⟨x0, x1, x2, x3, x4⟩ := x_cells HX5.out
            have hl4 : L'.length ≤ 400 := by have := hL.out.2; have := lens_ge L'; omega
            have hi4 : i ≤ 400 := by have := hL.out.1; omega
            have hLn : Hid ((L' ++ [x]).length = i + 1 ∧ p + 33 + y = 32 + lens (L' ++ [x])) := Lib.hid ⟨by rw [List.length_append, hL.out.1]; rfl, by rw [lens_append, hL.out.2]; simp only [lens, HXs.out]; omega⟩
            have hb1 : L'.length + 1 ≤ maxLen := by unfold maxLen; omega
            have hb2 : ((L'.length + 1) + (L'.length + 1) / 4 + 192) * 48 ≤ 281474976710656 := by omega
            have hb3 : tb + 1 ≤ (w5.alloc (.cells (xCells x) 30)).heap.size := by have := HI5.out.2.2.1.lt; simp; omega
            have hdn : decide ((i : Int) < N) = true := hdk
            go_wp2_with (at_builtin; refine wpList_append_own_wide _ rfl (.tmp 95) (.tmp 97) 22 rfl (tb + 1) 30 i0 _ 5 48 Try.underlying22 hi0 hz0 hz1 hz2 rfl (by decide) _ _ _ rfl (HI5.out.2.2.2.1.alloc _) ⟨w5.heap.size, 0, none⟩ 1 1 (flat1 x) rfl rfl (flat1_at w5 x) (flat1_one x) hb1 hb2 hb3 ?_; intro v6 w6 ho6 hg6 _; obtain ⟨q6, cap6, rfl⟩ := own_form ho6; have hM6 := Lib.hid (HI5.out.more ho6 hg6); have t6 : w6.cell? ⟨tb, 2, none⟩ = some v' := (by rw [hM6.out.1.cell]; rfl); have g6 := hM6.out.1.free 2; clear ho6 hg6)
            have hM := Lib.hid hM6.out.2
            clear hM6 t6 g6
            go_wp2_with fail
            go_roundg (N.toNat - (i + 1))
            case measure => go_light; omega
            case rel =>
              go_light
              exact ⟨i + 1, p + 33 + y, _, L' ++ [x], rfl, by omega, by go_num, by go_num, by omega, hLn, by rw [hm1]; exact hPs, hM⟩
    · have hdk : decide ((i : Int) < N) = false := by rw [decide_eq_false_iff_not]; exact hlt
      have hE : Hid (R = some (p, L')) := Lib.hid (by
        have := hP.out
        rw [show N.toNat - i = 0 by omega] at this
        rw [← this]; rfl)
      obtain ⟨⟨t0, t1, t2⟩, tf, ⟨d0, d1, d2⟩, ⟨c0, c1, c2⟩, ⟨f0, f1, f2⟩⟩ := hI.out.cells
      by_cases hN0 : N < 0
      · have hokF : Hid (ok = false) := Lib.hid (by
          cases hk : ok
          · rfl
          · have := (hok.out hk).1; omega)
        go_wp2_with fail
        exact bodyPost_ret (v := .tuple #[.agg Zt, .int .i64 3]) (by simp [results, Try.results14, go_sem, c0, c1, c2]) rfl (ReadOut.no hokF.out (ReadPost.zero rfl (fin3 hI.out.2.2.2.2.2 _ _ _)))
      · by_cases hpn : (p : Int) = (n : Int)
        · have hpe : ((p : Int) == (n : Int)) = true := by rw [beq_iff_eq]; exact hpn
          have hpe2 : p = n := by omega
          have hlen : L'.length ≤ 400 ∧ lens L' ≤ 100000 := by have := hL.out.2; have := lens_ge L'; omega
          have hyes : Hid (ok = true → L = L' ∧ D = d ∧ Z = z ∧ FormedT D Z L' ∧ headB d z L' = h.data.toList) := Lib.hid (by
            intro hk
            obtain ⟨_, h2, h3, h4, h5, h6⟩ := hok.out hk
            rw [hE.out] at h2
            simp only [Option.some.injEq, Prod.mk.injEq] at h2
            obtain ⟨_, rfl⟩ := h2
            refine ⟨rfl, h3, h4, ?_, h6⟩
            rw [h3, h4]; exact h5)
          obtain ⟨hl4, hls⟩ := hlen
          have Hls := Lib.hid hls
          clear hls
          obtain ⟨a', cap', hv', hEn⟩ := ents_of_owns hI.out.2.2.2.1 (by omega)
          subst hv'
          have HEn := Lib.hid hEn
          obtain ⟨RF, hRF⟩ : ∃ RF : Bool, RF = true ↔ FormedT D Z L' := bool_of _
          have HRF := Lib.hid hRF
          clear hEn hRF
          go_wp2_with fail
          refine (rformed_any _ _ _ _ _ L' _ RF HRF HEn.out).mono ?_; rintro x w7 ⟨rfl, q1⟩
          have HI7 := Lib.hid (hI.out.below q1)
          have HE7 := Lib.hid (HEn.out.below q1)
          clear q1 t0 t1 t2 tf d0 d1 d2 c0 c1 c2 f0 f1 f2
          obtain ⟨⟨t0, t1, t2⟩, tf, ⟨d0, d1, d2⟩, ⟨c0, c1, c2⟩, ⟨f0, f1, f2⟩⟩ := HI7.out.cells
          cases hk : RF
          · have hokF : Hid (ok = false) := Lib.hid (by
              cases ho : ok
              · rfl
              · have := HRF.out.2 (hyes.out ho).2.2.2.1; rw [hk] at this; exact absurd this (by decide))
            clear HRF
            go_wp2_with fail
            exact bodyPost_ret (v := .tuple #[.agg Zt, .int .i64 3]) (by simp [results, Try.results14, go_sem, c0, c1, c2]) rfl (ReadOut.no hokF.out (ReadPost.zero rfl (fin3 HI7.out.2.2.2.2.2 _ _ _)))
          · have HFT := Lib.hid (HRF.out.1 hk)
            clear HRF
            have hDZ := HFT.out
            unfold FormedT at hDZ
            obtain ⟨D', hD'⟩ := Int.eq_ofNat_of_zero_le (show 0 ≤ D by omega)
            obtain ⟨Z', hZ'⟩ := Int.eq_ofNat_of_zero_le (show 0 ≤ Z by omega)
            have b1 : D' ≤ 4096 := by omega
            have b2 : Z' ≤ 1048576 := by omega
            clear hDZ
            subst hD' hZ'
            obtain ⟨S, hS⟩ : ∃ S, mk (headB D' Z' L') = S := ⟨_, rfl⟩
            have HS := Lib.hid hS
            clear hS
            have HSl : Hid (S.data.toList = headB D' Z' L') := Lib.hid (by rw [← HS.out]; rfl)
            go_wp2_with fail
            refine (head_to D' Z' a' L'.length cap' L' w7 b1 b2 (by omega) HFT Hls HE7.out S HS).mono ?_; rintro x w8 ⟨rfl, q1⟩
            have HI8 := Lib.hid (HI7.out.below q1)
            clear q1 t0 t1 t2 tf d0 d1 d2 c0 c1 c2 f0 f1 f2
            obtain ⟨⟨t0, t1, t2⟩, tf, ⟨d0, d1, d2⟩, ⟨c0, c1, c2⟩, ⟨f0, f1, f2⟩⟩ := HI8.out.cells
            by_cases hh : headB D' Z' L' = h.data.toList
            · have hokT : Hid (ok = true) := Lib.hid (by
                cases ho : ok
                · exact absurd ⟨D', Z', L', HFT.out, hh⟩ (hno.out ho)
                · rfl)
              have hcmp : (S.toList == h.toList) = true := cmp_yes (by rw [HSl.out]; exact hh)
              clear hh
              go_wp2_with fail
              obtain ⟨e1, e2, e3, _, _⟩ := hyes.out hokT.out
              subst e1
              refine bodyPost_ret (v := .tuple #[.agg #[.int .i64 (D' : Int), .int .i64 (Z' : Int), .slice a' L.length cap'], .int .i64 0]) (by simp [results, Try.results14, go_sem, c0, c1, c2]) rfl (ReadOut.yes hokT.out ?_)
              rw [← e2, ← e3]
              exact ⟨a', cap', rfl, ents_at (ownsRow_setCell_below (ownsRow_setCell_below (ownsRow_setCell_below HI8.out.2.2.2.1 (show w.heap.size < tb + 1 by have := HI8.out.2.2.2.2.1; omega) _) (show w.heap.size < tb + 1 by have := HI8.out.2.2.2.2.1; omega) _) (show w.heap.size < tb + 1 by have := HI8.out.2.2.2.2.1; omega) _) (by omega), fin3 HI8.out.2.2.2.2.2 _ _ _⟩
            · have hokF : Hid (ok = false) := Lib.hid (by
                cases ho : ok
                · rfl
                · obtain ⟨_, g2, g3, _, g5⟩ := hyes.out ho
                  have g2' : D' = d := by omega
                  have g3' : Z' = z := by omega
                  subst g2' g3'
                  exact absurd g5 hh)
              have hcmp : (S.toList == h.toList) = false := cmp_no (by rw [HSl.out]; exact hh)
              clear hh
              go_wp2_with fail
              exact bodyPost_ret (v := .tuple #[.agg Zt, .int .i64 3]) (by simp [results, Try.results14, go_sem, c0, c1, c2]) rfl (ReadOut.no hokF.out (ReadPost.zero rfl (fin3 HI8.out.2.2.2.2.2 _ _ _)))
        · have hpe : ((p : Int) == (n : Int)) = false := by rw [beq_eq_false_iff_ne]; exact hpn
          have hokF : Hid (ok = false) := Lib.hid (by
            cases hk : ok
            · rfl
            · have := (hok.out hk).2.1
              rw [hE.out] at this; simp at this; omega)
          go_wp2_with fail
          exact bodyPost_ret (v := .tuple #[.agg Zt, .int .i64 3]) (by simp [results, Try.results14, go_sem, c0, c1, c2]) rfl (ReadOut.no hokF.out (ReadPost.zero rfl (fin3 hI.out.2.2.2.2.2 _ _ _)))
end Go.Proofs.Ytdbdmpdfjhmfhaa
