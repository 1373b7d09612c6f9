/- The walks of the reference's Write, of Write of what is not formed, and Read of what was written. -/
import Derived.Test.YtdbdmpdfjhmfhaaIL1
import Derived.Test.YtdbdmpdfjhmfhaaIT1
import Derived.Test.YtdbdmpdfjhmfhaaIW15a
namespace Go.Proofs.Ytdbdmpdfjhmfhaa
open Go.RowKit Go.Proofs.Lx

theorem tab_cells {w' : World} {g : Nat} {D Z : Int} {v : Value} (h : BK w' g #[.int .i64 D, .int .i64 Z, v] 24) : w'.cell? ⟨g, 0, none⟩ = some (.int .i64 D) ∧ w'.cell? ⟨g, 1, none⟩ = some (.int .i64 Z) ∧ w'.cell? ⟨g, 2, none⟩ = some v := by
  refine ⟨?_, ?_, ?_⟩
  all_goals rw [h.cell]; rfl
theorem read_back (d z : Nat) (L : List En) (S : ByteArray) (hS : Hid (S.data.toList = headB d z L ++ eight (sumL (headB d z L)))) (hF : Hid (FormedT d z L)) (h40 : 40 ≤ S.size) (hS10 : S.size ≤ 10000) (w : World) :
    Calls Try.prog 13 #[.string S] w fun e w' => ReadPost w d z L 0 e w' := by
  obtain ⟨n, hn⟩ : ∃ n, S.size = n + 8 := ⟨S.size - 8, by omega⟩
  have hn8 : S.size - 8 = n := by omega
  have hl : (headB d z L).length = n := by
    have := congrArg List.length hS.out
    rw [← size_list] at this
    simp only [List.length_append, eight_len] at this; omega
  have e1 : (S.extract 0 n).data.toList = headB d z L := by
    rw [extract_list, hS.out, List.drop_zero, Nat.sub_zero, List.take_left' hl]
  have e2 : (S.extract n S.size).data.toList = eight (sumL (headB d z L)) := by
    rw [extract_list, hS.out, List.drop_left' hl, hn, show n + 8 - n = 8 by omega]
    exact List.take_of_length_le (Nat.le_of_eq (eight_len _))
  obtain ⟨t1, t2, t3, t4, g1, g2, g3, g4, g5⟩ := prog_yes hF.out e1
  refine (read_main S w (by omega) hS10 (sumL (headB d z L)) (Lib.hid (by rw [hn8, e2, wideTo_eight _ (sumL_lt _)])) (Lib.hid (by rw [hn8, e1])) _ t1 false (Lib.hid (by rw [hn8]; exact g1)) (name_list rfl) d t2 false (Lib.hid g2) z t3 false (Lib.hid g3) L.length t4 false (Lib.hid g4) L (mk []) false (Lib.hid g5) true (Lib.hid ⟨fun _ => ⟨rfl, rfl, hF.out⟩, fun _ => rfl⟩)).mono fun e w' h => h.1 rfl
/-- two strings, one behind the other -/
theorem put_eights {H E S : ByteArray} {d z : Nat} {L : List En} (hH : Hid (mk (headB d z L) = H)) (hE : Hid (mk (eight (sumL H.data.toList)) = E)) (hS : Hid (S.data.toList = headB d z L ++ eight (sumL (headB d z L)))) : H ++ E = S := by
  apply ByteArray.ext; apply Array.toList_inj.1
  rw [hS.out, ← hE.out, ← hH.out]
  simp [mk]
set_option maxRecDepth 100000 in
set_option maxHeartbeats 2000000 in
theorem rwrite_to (d z : Nat) (a : Option Addr) (len cap : Nat) (L : List En) (w : World) (hd : d ≤ 4096) (hz : z ≤ 1048576) (hl : len ≤ 1000) (hF : Hid (FormedT d z L)) (hsz : Hid (lens L ≤ 100000)) (hE : Ents w a len L) (S : ByteArray) (zS : S.size ≤ 10000) (hS : Hid (S.data.toList = headB d z L ++ eight (sumL (headB d z L)))) :
    Calls Try.prog 18 #[.agg #[.int .i64 (d : Int), .int .i64 (z : Int), .slice a len cap]] w fun e w' => e = .returned (.string S) ∧ Below w.heap.size w w' := by
  obtain ⟨H, hH⟩ : ∃ H, Hid (mk (headB d z L) = H) := ⟨_, Lib.hid rfl⟩
  obtain ⟨sv, hsv⟩ : ∃ sv, Hid (sumL H.data.toList = sv) := ⟨_, Lib.hid rfl⟩
  obtain ⟨E, hEE⟩ : ∃ E, Hid (mk (eight sv) = E) := ⟨_, Lib.hid rfl⟩
  have hput := Lib.hid (put_eights (E := E) hH (Lib.hid (by rw [hsv.out]; exact hEE.out)) hS)
  have zE : E.size = 8 := by rw [← hEE.out, mk_size, eight_len]
  have zH : H.size + 8 ≤ 10000 := by
    have := congrArg ByteArray.size hput.out
    rw [ByteArray.size_append, zE] at this; omega
  have s1 : ¬ 9223372036854775807 < H.size + 8 := by omega
  have HT := Lib.hid (TB.start (deep := (d : Int)) (size := (z : Int)) (cap := cap) hE)
  have hE2 := Lib.hid (hE.below (below1 w (.cells #[.int .i64 (d : Int), .int .i64 (z : Int), .slice a len cap] 24)))
  go_enter Try.func18, Try.ntmps18
  go_wp2_with fail
  refine (head_to d z a len cap L _ hd hz hl hF hsz ?_ H hH).mono ?_
  · first | exact hE | exact hE2.out
  rintro x w2 ⟨rfl, hb2⟩
  have HB2 := Lib.hid ((below1 w (.cells #[.int .i64 (d : Int), .int .i64 (z : Int), .slice a len cap] 24)).trans (hb2.mono (below1 w _).size))
  clear hb2 hE2
  go_wp2_with fail
  refine (rsum_to H sv _ (by unfold maxLen; omega) hsv).mono ?_; rintro e w5 ⟨rfl, rfl⟩
  go_wp2_with fail
  refine (eight_of sv E _ hEE).mono ?_; rintro e w5 ⟨rfl, hb⟩
  have HB5 := Lib.hid (HB2.out.trans (hb.mono HB2.out.size))
  clear hb
  go_wp2_with fail
  go_ret
  exact ⟨ret_str hput.out, HB5.out⟩
/-- Write of what is not formed -/
theorem write_no (deep size : Int) (a : Option Addr) (len cap : Nat) (L : List En) (w : World) (hF : Hid (¬ FormedT deep size L)) (hE : Ents w a len L) :
    Calls Try.prog 10 #[.agg #[.int .i64 deep, .int .i64 size, .slice a len cap]] w fun e w' => e = .returned (.tuple #[.string ⟨#[]⟩, .int .i64 1]) ∧ Below w.heap.size w w' := by
  have HT := Lib.hid (TB.start (deep := deep) (size := size) (cap := cap) hE)
  have hE2 := Lib.hid (hE.below (below1 w (.cells #[.int .i64 deep, .int .i64 size, .slice a len cap] 24)))
  go_enter Try.func10, Try.ntmps10
  go_wp2_with fail
  refine (formed_any _ _ _ _ _ L _ false (Lib.hid ⟨fun h => absurd h (by decide), fun h => absurd h hF.out⟩) ?_).mono ?_
  · first | exact hE | exact hE2.out
  rintro x w2 ⟨rfl, hb2⟩
  have HB2 := Lib.hid ((below1 w (.cells #[.int .i64 deep, .int .i64 size, .slice a len cap] 24)).trans (hb2.mono (below1 w _).size))
  clear hb2 hE2
  go_wp2_with fail
  go_ret2
  exact ⟨rfl, HB2.out⟩

set_option maxRecDepth 100000 in
set_option maxHeartbeats 4000000 in
theorem writes_walk (deep size : Int) (a : Option Addr) (len cap : Nat) (L : List En) (w : World) (hE : Ents w a len L) :
    Calls Try.prog 5 #[.agg #[.int .i64 deep, .int .i64 size, .slice a len cap]] w fun e w' => e = .returned (.bool true) ∧ Below w.heap.size w w' := by
  obtain rfl := hE.1
  have HT := Lib.hid (TB.start (deep := deep) (size := size) (cap := cap) hE)
  have hlen := hE.2.1
  clear hE
  by_cases hFew : FewT L
  · have HF := Lib.hid hFew
    have HRF : Hid (∀ R : Bool, R = true → (R = true ↔ FewT L)) := Lib.hid (fun R h => ⟨fun _ => hFew, fun _ => h⟩)
    clear hFew
    by_cases hFo : FormedT deep size L
    · obtain ⟨d, rfl⟩ := Int.eq_ofNat_of_zero_le (show 0 ≤ deep by have := hFo.1.1; omega)
      obtain ⟨z, rfl⟩ := Int.eq_ofNat_of_zero_le (show 0 ≤ size by have := hFo.2.1.1; omega)
      have bd : d ≤ 4096 := by have := hFo.1.2; omega
      have bz : z ≤ 1048576 := by have := hFo.2.1.2; omega
      have HG := Lib.hid hFo
      clear hFo
      have hl12 : L.length ≤ 12 := by have := HF.out.2; omega
      have hlens : lens L ≤ 2796 := by
        have h1 := lens_few L HF.out L.length
        rw [List.take_of_length_le (Nat.le_refl _)] at h1
        omega
      obtain ⟨S, hSe⟩ : ∃ S : ByteArray, S = ⟨(writeB d z L).toArray⟩ := ⟨_, rfl⟩
      have hsz : S.size = 40 + lens L := by rw [hSe]; have h1 : (⟨(writeB d z L).toArray⟩ : ByteArray).size = (writeB d z L).length := by simp [ByteArray.size]
                                            rw [h1, writeB_len]
      have h40 : 40 ≤ S.size := by omega
      have hS10 : S.size ≤ 10000 := by omega
      have HLs : Hid (lens L ≤ 100000) := Lib.hid (by omega)
      have HS := Lib.hid hSe
      have HSl := Lib.hid (writeB_of hSe)
      clear hSe hsz hlens
      go_enter Try.func5, Try.ntmps5
      go_wp2_with fail
      refine (awake_any _).mono ?_; rintro e w1 ⟨rfl, hb1⟩
      have HT1 := Lib.hid (HT.out.next hb1)
      clear hb1
      obtain ⟨c0, c1, c2, _⟩ := HT1.out
      go_wp2_with fail
      refine (few_any _ _ _ _ _ L _ true (Lib.hid (HRF.out true rfl)) HT1.out.2.2.2.2.1).mono ?_; rintro e w2 ⟨rfl, hb2⟩
      have HT2 := Lib.hid (HT1.out.next hb2)
      clear hb2 c0 c1 c2 HT HT1
      obtain ⟨c0, c1, c2, _⟩ := HT2.out
      go_wp2_with fail
      refine (write_to d z a L.length cap L _ S (Lib.hid HS.out.symm) HG HF (Lib.hid HT2.out.2.2.2.2.1)).mono ?_; rintro e w3 ⟨rfl, hb3⟩
      have HT3 := Lib.hid (HT2.out.next hb3)
      clear hb3 c0 c1 c2 HT2
      obtain ⟨c0, c1, c2, _⟩ := HT3.out
      go_wp2_with fail
      refine (rformed_any _ _ _ _ _ L _ true (Lib.hid ⟨fun _ => HG.out, fun _ => rfl⟩) HT3.out.2.2.2.2.1).mono ?_; rintro e w4 ⟨rfl, hb4⟩
      have HT4 := Lib.hid (HT3.out.next hb4)
      clear hb4 c0 c1 c2 HT3
      go_wp2_with fail
      refine (read_back d z L S HSl HG h40 hS10 _).mono ?_; rintro e w5 ⟨a', cap', rfl, hE5, hb5⟩
      have HT5 := Lib.hid (HT4.out.next hb5)
      have HT5a := Lib.hid (HT5.out.next (below1 w5 (.cells #[.int .i64 (d : Int), .int .i64 (z : Int), .slice a' L.length cap'] 24)))
      have HE5 := Lib.hid hE5
      have HK5 := Lib.hid (BK.new w5 #[.int .i64 (d : Int), .int .i64 (z : Int), .slice a' L.length cap'] 24)
      have HE5a := Lib.hid (HE5.out.below (below1 w5 (.cells #[.int .i64 (d : Int), .int .i64 (z : Int), .slice a' L.length cap'] 24)))
      clear hb5 hE5 HT4
      obtain ⟨c0, c1, c2, _⟩ := HT5a.out
      go_wp2_with fail
      refine (rwrite_to d z a L.length cap L _ bd bz (by omega) HG HLs HT5a.out.2.2.2.2.1 S hS10 HSl).mono ?_; rintro e w6 ⟨rfl, hb6⟩
      have HT6 := Lib.hid (HT5a.out.next hb6)
      have HE6 := Lib.hid (HE5a.out.below hb6)
      have HK6 := Lib.hid (HK5.out.below hb6)
      clear hb6 c0 c1 c2 HT5 HT5a HE5 HE5a HK5
      obtain ⟨c0, c1, c2, _⟩ := HT6.out
      obtain ⟨d0, d1, d2⟩ := tab_cells HK6.out
      go_wp2_with fail
      refine (same_yes _ _ _ _ _ _ _ L _ HT6.out.2.2.2.2.1 HE6.out).mono ?_; rintro e w7 ⟨rfl, hb7⟩
      have HT7 := Lib.hid (HT6.out.next hb7)
      clear hb7 c0 c1 c2 d0 d1 d2 HT6 HE6 HK6
      obtain ⟨c0, c1, c2, _⟩ := HT7.out
      go_wp2_with fail
      refine (formed_any _ _ _ _ _ L _ true (Lib.hid ⟨fun _ => HG.out, fun _ => rfl⟩) HT7.out.2.2.2.2.1).mono ?_; rintro e w8 ⟨rfl, hb8⟩
      have HT8 := Lib.hid (HT7.out.next hb8)
      clear hb8
      go_wp2_with fail
      go_ret
      exact ⟨rfl, HT8.out.2.2.2.2.2⟩
    · have HN := Lib.hid hFo
      clear hFo
      go_enter Try.func5, Try.ntmps5
      go_wp2_with fail
      refine (awake_any _).mono ?_; rintro e w1 ⟨rfl, hb1⟩
      have HT1 := Lib.hid (HT.out.next hb1)
      clear hb1
      obtain ⟨c0, c1, c2, _⟩ := HT1.out
      go_wp2_with fail
      refine (few_any _ _ _ _ _ L _ true (Lib.hid (HRF.out true rfl)) HT1.out.2.2.2.2.1).mono ?_; rintro e w2 ⟨rfl, hb2⟩
      have HT2 := Lib.hid (HT1.out.next hb2)
      clear hb2 c0 c1 c2 HT HT1
      obtain ⟨c0, c1, c2, _⟩ := HT2.out
      go_wp2_with fail
      refine (write_no _ _ a L.length cap L _ HN HT2.out.2.2.2.2.1).mono ?_; rintro e w3 ⟨rfl, hb3⟩
      have HT3 := Lib.hid (HT2.out.next hb3)
      clear hb3 c0 c1 c2 HT2
      obtain ⟨c0, c1, c2, _⟩ := HT3.out
      go_wp2_with fail
      refine (rformed_any _ _ _ _ _ L _ false (Lib.hid ⟨fun h => absurd h (by decide), fun h => absurd h HN.out⟩) HT3.out.2.2.2.2.1).mono ?_; rintro e w4 ⟨rfl, hb4⟩
      have HT4 := Lib.hid (HT3.out.next hb4)
      clear hb4 c0 c1 c2 HT3
      obtain ⟨c0, c1, c2, _⟩ := HT4.out
      go_wp2_with fail
      refine (formed_any _ _ _ _ _ L _ false (Lib.hid ⟨fun h => absurd h (by decide), fun h => absurd h HN.out⟩) HT4.out.2.2.2.2.1).mono ?_; rintro e w5 ⟨rfl, hb5⟩
      have HT5 := Lib.hid (HT4.out.next hb5)
      clear hb5
      go_wp2_with fail
      go_ret
      exact ⟨rfl, HT5.out.2.2.2.2.2⟩
  · have HN := Lib.hid hFew
    clear hFew
    go_enter Try.func5, Try.ntmps5
    go_wp2_with fail
    refine (awake_any _).mono ?_; rintro e w1 ⟨rfl, hb1⟩
    have HT1 := Lib.hid (HT.out.next hb1)
    clear hb1
    obtain ⟨c0, c1, c2, _⟩ := HT1.out
    go_wp2_with fail
    refine (few_any _ _ _ _ _ L _ false (Lib.hid ⟨fun h => absurd h (by decide), fun h => absurd h HN.out⟩) HT1.out.2.2.2.2.1).mono ?_; rintro e w2 ⟨rfl, hb2⟩
    have HT2 := Lib.hid (HT1.out.next hb2)
    clear hb2 c0 c1 c2 HT HT1
    go_wp2_with fail
    refine (awake_any _).mono ?_; rintro e w3 ⟨rfl, hb3⟩
    have HT3 := Lib.hid (HT2.out.next hb3)
    clear hb3
    go_wp2_with fail
    go_ret
    exact ⟨rfl, HT3.out.2.2.2.2.2⟩
end Go.Proofs.Ytdbdmpdfjhmfhaa
