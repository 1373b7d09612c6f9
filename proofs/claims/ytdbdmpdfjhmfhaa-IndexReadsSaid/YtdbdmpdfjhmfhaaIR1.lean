/- The walk of the law IndexReads. -/
import Derived.Test.YtdbdmpdfjhmfhaaIL1
import Derived.Test.YtdbdmpdfjhmfhaaIT1
import Derived.Test.YtdbdmpdfjhmfhaaIR0
namespace Go.Proofs.Ytdbdmpdfjhmfhaa
open Go.RowKit Go.Proofs.Lx

theorem tab_cells {w' : World} {g : Nat} {D Z : Int} {v : Value} (h : BK w' g #[.int .i64 D, .int .i64 Z, v] 24) : w'.cell? ⟨g, 0, none⟩ = some (.int .i64 D) ∧ w'.cell? ⟨g, 1, none⟩ = some (.int .i64 Z) ∧ w'.cell? ⟨g, 2, none⟩ = some v := by
  refine ⟨?_, ?_, ?_⟩
  all_goals rw [h.cell]; rfl
set_option maxRecDepth 100000 in
set_option maxHeartbeats 2000000 in
theorem reads_long (s : ByteArray) (m : Bool) (w : World) (hs : 900 < s.size) :
    Calls Try.prog 4 #[.string s, .bool m] w fun e w' => e = .returned (.bool true) ∧ Below w.heap.size w w' := by
  go_enter Try.func4, Try.ntmps4
  go_wp2_with fail
  refine (awake_any _).mono ?_; rintro e w1 ⟨rfl, hb1⟩
  have HB1 := Lib.hid hb1
  clear hb1
  go_wp2_with fail
  refine (awake_any _).mono ?_; rintro e w2 ⟨rfl, hb2⟩
  have HB2 := Lib.hid (HB1.out.trans (hb2.mono HB1.out.size))
  clear hb2 HB1
  go_wp2_with fail
  go_ret
  exact ⟨rfl, HB2.out⟩
set_option maxRecDepth 100000 in
set_option maxHeartbeats 2000000 in
theorem reads_plain (s : ByteArray) (m : Bool) (w : World) (hs : ¬ 900 < s.size) (hm : m = false ∨ (m = true ∧ s.size < 8)) :
    Calls Try.prog 4 #[.string s, .bool m] w fun e w' => e = .returned (.bool true) ∧ Below w.heap.size w w' := by
  obtain ⟨d, z, L, err, hA⟩ := reads_both s (by omega)
  have HA := Lib.hid hA
  obtain ⟨sv, hsv⟩ : ∃ sv, Hid (sumL s.data.toList = sv) := ⟨_, Lib.hid rfl⟩
  clear hA
  go_enter Try.func4, Try.ntmps4
  rcases hm with rfl | ⟨rfl, hm⟩
  all_goals
    go_wp2_with fail
    refine (awake_any _).mono ?_; rintro e w1 ⟨rfl, hb1⟩
    have HB1 := Lib.hid hb1
    clear hb1
    go_wp2_with fail
    refine (HA.out.1 _).mono ?_; rintro e w2 ⟨a, cap, rfl, hE2, hb2⟩
    have HB2 := Lib.hid (HB1.out.trans (hb2.mono HB1.out.size))
    have HE2 := Lib.hid hE2
    clear hb2 hE2 HB1
    go_wp2_with fail
    have HK2 := Lib.hid (BK.new w2 #[.int .i64 (d : Int), .int .i64 (z : Int), .slice a L.length cap] 24)
    have HB2a := Lib.hid (HB2.out.alloc HB2.out.size (.cells #[.int .i64 (d : Int), .int .i64 (z : Int), .slice a L.length cap] 24))
    refine (HA.out.2 _).mono ?_; rintro e w3 ⟨a', cap', rfl, hE3, hb3⟩
    have HB3 := Lib.hid (HB2a.out.trans (hb3.mono HB2a.out.size))
    have HE3 := Lib.hid hE3
    have HE2a := Lib.hid ((HE2.out.below (below1 w2 (.cells #[.int .i64 (d : Int), .int .i64 (z : Int), .slice a L.length cap] 24))).below hb3)
    have HK3 := Lib.hid (HK2.out.below hb3)
    obtain ⟨c0, c1, c2⟩ := tab_cells (HK3.out.alloc (.cells #[.int .i64 (d : Int), .int .i64 (z : Int), .slice a' L.length cap'] 24))
    have HE2b := Lib.hid (HE2a.out.below (below1 w3 (.cells #[.int .i64 (d : Int), .int .i64 (z : Int), .slice a' L.length cap'] 24)))
    have HE3b := Lib.hid (HE3.out.below (below1 w3 (.cells #[.int .i64 (d : Int), .int .i64 (z : Int), .slice a' L.length cap'] 24)))
    have HB3b := Lib.hid (HB3.out.alloc HB3.out.size (.cells #[.int .i64 (d : Int), .int .i64 (z : Int), .slice a' L.length cap'] 24))
    clear hb3 hE3 HB2 HE2 HK2 HB2a
    go_wp2_with fail
    refine (same_yes _ _ _ _ _ _ _ L _ HE2b.out HE3b.out).mono ?_; rintro e w4 ⟨rfl, hb4⟩
    have HB4 := Lib.hid (HB3b.out.trans (hb4.mono HB3b.out.size))
    clear hb4 c0 c1 c2
    go_wp2_with fail
    refine (sum_to' s sv _ (by unfold maxLen; omega) hsv).mono ?_; rintro e w5 ⟨rfl, rfl⟩
    go_wp2_with fail
    refine (rsum_to s sv _ (by unfold maxLen; omega) hsv).mono ?_; rintro e w5 ⟨rfl, rfl⟩
    go_wp2_with fail
    go_ret
    exact ⟨rfl, HB4.out⟩
set_option maxRecDepth 100000 in
set_option maxHeartbeats 4000000 in
theorem reads_mend (s : ByteArray) (w : World) (hs : ¬ 900 < s.size) (n : Nat) (hn : (s.size : Int) = n + 8) :
    Calls Try.prog 4 #[.string s, .bool true] w fun e w' => e = .returned (.bool true) ∧ Below w.heap.size w w' := by
  have k0 : (s.size : Int) - 8 = (n : Int) := by omega
  have k1 : (0 : Int) ≤ (n : Int) := by omega
  have k2 : (n : Int) ≤ (s.size : Int) := by omega
  have k3 : ¬ (s.size : Int) < 8 := by omega
  have k5 : IntKind.i64.wrap (n : Int) = (n : Int) := wrap_in n ⟨by omega, by omega⟩
  have zH : (s.extract 0 n).size = n := by simp; omega
  have s1 : ¬ 9223372036854775807 < n + 8 := by omega
  obtain ⟨hv0, hhv⟩ : ∃ sv0, Hid (sumL (s.extract 0 n).data.toList = sv0) := ⟨_, Lib.hid rfl⟩
  obtain ⟨E, zE, HE⟩ : ∃ E : ByteArray, E.size = 8 ∧ Hid (mk (eight hv0) = E) := ⟨_, by rw [mk_size, eight_len], Lib.hid rfl⟩
  obtain ⟨T, hT⟩ : ∃ T, s.extract 0 n ++ E = T := ⟨_, rfl⟩
  have zT : T.size ≤ 900 := by rw [← hT]; simp only [ByteArray.size_append, zE, ByteArray.size_extract]; omega
  obtain ⟨d, z, L, err, hA⟩ := reads_both T (by omega)
  have HA := Lib.hid hA
  clear hA
  obtain ⟨sv, hsv⟩ : ∃ sv, Hid (sumL T.data.toList = sv) := ⟨_, Lib.hid rfl⟩
  have HT := Lib.hid hT
  clear hT
  clear hn
  go_enter Try.func4, Try.ntmps4
  go_wp2_with fail
  refine (awake_any _).mono ?_; rintro e w1 ⟨rfl, hb1⟩
  have HB1 := Lib.hid hb1
  clear hb1
  go_wp2_with fail
  have HBd : Hid (Below w.heap.size w w1.drew) := Lib.hid HB1.out.drew
  go_region_held3 (fun w' => Hid (Below w.heap.size w w')) (first | assumption | exact HBd)
    (first | (go_at_call 12; refine (rsum_to _ hv0 _ (by simp; unfold maxLen; omega) hhv).mono ?_; rintro e w5 ⟨rfl, rfl⟩)
           | (go_at_call 11; refine (eight_of hv0 E _ HE).mono ?_; rintro e w5 ⟨rfl, hb⟩; have HX := Lib.hid ((Hid.out (p := Below w.heap.size w _) (by assumption)).trans (hb.mono (Hid.out (p := Below w.heap.size w _) (by assumption)).size)); clear hb))
  clear HB1 HBd
  have HB1 := HX
  clear HX
  rw [HT.out]
  go_wp2_with fail
  refine (HA.out.1 _).mono ?_; rintro e w2 ⟨a, cap, rfl, hE2, hb2⟩
  have HB2 := Lib.hid (HB1.out.trans (hb2.mono HB1.out.size))
  have HE2 := Lib.hid hE2
  clear hb2 hE2 HB1
  go_wp2_with fail
  have HK2 := Lib.hid (BK.new w2 #[.int .i64 (d : Int), .int .i64 (z : Int), .slice a L.length cap] 24)
  have HB2a := Lib.hid (HB2.out.alloc HB2.out.size (.cells #[.int .i64 (d : Int), .int .i64 (z : Int), .slice a L.length cap] 24))
  refine (HA.out.2 _).mono ?_; rintro e w3 ⟨a', cap', rfl, hE3, hb3⟩
  have HB3 := Lib.hid (HB2a.out.trans (hb3.mono HB2a.out.size))
  have HE3 := Lib.hid hE3
  have HE2a := Lib.hid ((HE2.out.below (below1 w2 (.cells #[.int .i64 (d : Int), .int .i64 (z : Int), .slice a L.length cap] 24))).below hb3)
  have HK3 := Lib.hid (HK2.out.below hb3)
  obtain ⟨c0, c1, c2⟩ := tab_cells (HK3.out.alloc (.cells #[.int .i64 (d : Int), .int .i64 (z : Int), .slice a' L.length cap'] 24))
  have HE2b := Lib.hid (HE2a.out.below (below1 w3 (.cells #[.int .i64 (d : Int), .int .i64 (z : Int), .slice a' L.length cap'] 24)))
  have HE3b := Lib.hid (HE3.out.below (below1 w3 (.cells #[.int .i64 (d : Int), .int .i64 (z : Int), .slice a' L.length cap'] 24)))
  have HB3b := Lib.hid (HB3.out.alloc HB3.out.size (.cells #[.int .i64 (d : Int), .int .i64 (z : Int), .slice a' L.length cap'] 24))
  clear hb3 hE3 HB2 HE2 HK2 HB2a
  go_wp2_with fail
  refine (same_yes _ _ _ _ _ _ _ L _ HE2b.out HE3b.out).mono ?_; rintro e w4 ⟨rfl, hb4⟩
  have HB4 := Lib.hid (HB3b.out.trans (hb4.mono HB3b.out.size))
  clear hb4 c0 c1 c2
  go_wp2_with fail
  refine (sum_to' T sv _ (by unfold maxLen; omega) hsv).mono ?_; rintro e w5 ⟨rfl, rfl⟩
  go_wp2_with fail
  refine (rsum_to T sv _ (by unfold maxLen; omega) hsv).mono ?_; rintro e w5 ⟨rfl, rfl⟩
  go_wp2_with fail
  go_ret
  exact ⟨rfl, HB4.out⟩
theorem reads_walk (s : ByteArray) (m : Bool) (w : World) : Calls Try.prog 4 #[.string s, .bool m] w fun e w' => e = .returned (.bool true) ∧ Below w.heap.size w w' := by
  by_cases hs : 900 < s.size
  · exact reads_long s m w hs
  · cases m
    · exact reads_plain s false w hs (.inl rfl)
    · by_cases h8 : s.size < 8
      · exact reads_plain s true w hs (.inr ⟨rfl, h8⟩)
      · exact reads_mend s w hs (s.size - 8) (by omega)
end Go.Proofs.Ytdbdmpdfjhmfhaa
