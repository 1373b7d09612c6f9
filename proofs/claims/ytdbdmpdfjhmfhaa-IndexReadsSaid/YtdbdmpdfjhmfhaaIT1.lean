/- The walk of the law IndexTurned. -/
import Derived.Test.YtdbdmpdfjhmfhaaIL1
import Derived.Test.YtdbdmpdfjhmfhaaIW10
import Derived.Test.YtdbdmpdfjhmfhaaIPlain6
import Derived.Laws.IdiomStrings
namespace Go.Proofs.Ytdbdmpdfjhmfhaa
open Go.RowKit Go.Proofs.Lx

theorem bytesRow_size (S : ByteArray) (cap : Nat) : S.size ≤ (bytesRow S cap).size := by
  unfold bytesRow
  have : S.data.size = S.size := rfl
  simp only [Array.size_append, Array.size_map]; omega
theorem xor_u8 (x : UInt8) (bv : Int) (h : 0 ≤ bv ∧ bv ≤ 255) : bits .xor .u8 (x.toNat : Int) bv = ((x ^^^ UInt8.ofNat bv.toNat).toNat : Int) := by
  obtain ⟨b, rfl⟩ := Int.eq_ofNat_of_zero_le h.1
  have hx := x.toNat_lt
  have hb : b < 256 := by omega
  have e : (UInt8.ofNat b).toNat = b := by simp only [UInt8.toNat_ofNat']; omega
  have h2 : x.toNat ^^^ b < 256 := Nat.xor_lt_two_pow (n := 8) hx hb
  simp [bits, UInt8.toNat_xor, e]
  have e8 : IntKind.u8.bits = 8 := rfl
  rw [e8, Nat.mod_eq_of_lt hx, Nat.mod_eq_of_lt hb, IntKind.wrap_u8]
  omega
/-- the string of a row of bytes, one of which was turned -/
theorem back_turned (S : ByteArray) (w4 : World) (cap i : Nat) (fz : Nat × Nat) (y : UInt8) (hi : i < S.size) (w' : World) (hw : ∀ q, w'.cell? q = ((w4.alloc (.cells (bytesRow S cap) 5 fz)).setCell ⟨w4.heap.size, i, none⟩ (.int .u8 (y.toNat : Int))).cell? q) :
    (convert 43 9 (.slice (some ⟨w4.heap.size, 0, none⟩) S.size cap)).run Try.prog w' = .ok (.string ⟨(S.data.toList.set i y).toArray⟩) w' := by
  have hl : (S.data.toList.set i y).length = S.size := by simp
  have := run_convert_bytes_back (P := Try.prog) w' 43 9 5 ⟨w4.heap.size, 0, none⟩ cap (S.data.toList.set i y) Try.underlying43 Try.underlying5 Try.underlying9 (fun j hj => by
    rw [hw, Addr.add_lit, Nat.zero_add]
    have hj' : j < S.size := by omega
    have hnew : (w4.alloc (.cells (bytesRow S cap) 5 fz)).heap[w4.heap.size]? = some (.cells (bytesRow S cap) 5 fz) := heap_alloc_new w4 _
    by_cases e : j = i
    · subst e
      rw [World.cell?_setCell_same' _ _ _ (by rw [World.cell?_alloc_mark, bytesRow_at S cap j hi]; rfl)]
      simp
    · rw [World.cell?_setCell_other _ _ _ _ (by intro h; simp only [Addr.mk.injEq] at h; omega), World.cell?_alloc_mark, bytesRow_at S cap j hj']
      rw [List.getElem_set_ne (by omega)]; rfl)
  rw [hl] at this
  exact this
theorem turned_ne (h : List UInt8) (S T : ByteArray) (hS : S.data.toList = h ++ eight (sumL h)) (i : Nat) (hi : i < S.size) (y : UInt8) (hy : y ≠ S[i]) (hT : T.data.toList = S.data.toList.set i y) :
    wideTo (T.extract (T.size - 8) T.size).data.toList ≠ sumL (T.extract 0 (T.size - 8)).data.toList := by
  have hsz : T.size = h.length + 8 := by
    have := congrArg List.length hT
    rw [hS] at this
    simpa [eight_len] using this
  have hsz2 : S.size = h.length + 8 := by
    have := congrArg List.length hS
    simpa [eight_len] using this
  have h1 : (T.extract (T.size - 8) T.size).data.toList = ((h ++ eight (sumL h)).set i y).drop h.length := by
    rw [Lib.extract_data, hT, hS, hsz, show h.length + 8 - 8 = h.length by omega, show h.length + 8 - h.length = 8 by omega]
    exact List.take_of_length_le (by simp [eight_len])
  have h2 : (T.extract 0 (T.size - 8)).data.toList = ((h ++ eight (sumL h)).set i y).take h.length := by
    rw [Lib.extract_data, hT, hS, hsz, show h.length + 8 - 8 = h.length by omega]
    simp
  rw [h1, h2]
  refine turned h i S[i] y ?_ hy
  rw [← hS]
  exact List.getElem?_eq_getElem (by simpa using hi)
theorem writeB_of {d z : Nat} {L : List En} {S : ByteArray} (h : S = ⟨(writeB d z L).toArray⟩) : S.data.toList = headB d z L ++ eight (sumL (headB d z L)) := by
  subst h; unfold writeB; rw [show eights [sumL (headB d z L)] = eight (sumL (headB d z L)) from List.append_nil _]
theorem set_of {T : ByteArray} {l : List UInt8} (h : T = ⟨l.toArray⟩) : T.data.toList = l := by subst h; rfl
theorem size_of {S T : ByteArray} {i : Nat} {y : UInt8} (h : T = ⟨(S.data.toList.set i y).toArray⟩) : T.size = S.size := by have := congrArg List.length (set_of h); simpa using this
theorem bel3 {w w4 w5 : World} {o : Obj} {i : Nat} {v : Value} (h : Below w.heap.size w w4) (hb : Below ((w4.alloc o).setCell ⟨w4.heap.size, i, none⟩ v).drew.heap.size ((w4.alloc o).setCell ⟨w4.heap.size, i, none⟩ v).drew w5) : Below w.heap.size w w5 := by
  have h2 : Below w.heap.size w ((w4.alloc o).setCell ⟨w4.heap.size, i, none⟩ v).drew := ((h.alloc h.size o).setCell (p := ⟨w4.heap.size, i, none⟩) (show w.heap.size ≤ w4.heap.size from h.size) v).drew
  exact h2.trans (hb.mono h2.size)
theorem xor_ne (x : UInt8) (bv : Int) (h : 0 ≤ bv ∧ bv ≤ 255) (h0 : ¬ bv = 0) : x ^^^ UInt8.ofNat bv.toNat ≠ x := by
  intro e
  have e2 := congrArg (fun q => x ^^^ q) e
  simp only [← UInt8.xor_assoc, UInt8.xor_self, UInt8.zero_xor] at e2
  have e3 := congrArg UInt8.toNat e2
  simp only [UInt8.toNat_ofNat'] at e3
  have : (0 : UInt8).toNat = 0 := rfl
  rw [this] at e3
  omega
theorem same_none (w : World) : Calls Try.prog 15 #[.agg #[.int .i64 0, .int .i64 0, .slice none 0 0], .agg #[.int .i64 0, .int .i64 0, .slice none 0 0]] w fun e w' => e = .returned (.bool true) ∧ Below w.heap.size w w' :=
  same_yes 0 0 none none 0 0 0 [] w ⟨rfl, by omega, fun h => absurd h (Nat.lt_irrefl 0)⟩ ⟨rfl, by omega, fun h => absurd h (Nat.lt_irrefl 0)⟩
set_option maxRecDepth 100000 in
set_option maxHeartbeats 4000000 in
theorem turned_walk (deep size : Int) (a : Option Addr) (len cap : Nat) (L : List En) (av bv : Int) (hav : 0 ≤ av ∧ av ≤ 65535) (hbv : 0 ≤ bv ∧ bv ≤ 255) (w : World) (hE : Ents w a len L) :
    Calls Try.prog 6 #[.agg #[.int .i64 deep, .int .i64 size, .slice a len cap], .int .u16 av, .int .u8 bv] w fun e w' => e = .returned (.bool true) ∧ Below w.heap.size w w' := by
  have HT := Lib.hid (TB.start (deep := deep) (size := size) (cap := cap) hE)
  have hlen := hE.2.1
  have hll := Lib.hid hE.1
  clear hE
  by_cases hFew : FewT L
  · have HF := Lib.hid hFew
    have HRF : Hid (∀ R : Bool, R = true → (R = true ↔ FewT L)) := Lib.hid (fun R h => ⟨fun _ => hFew, fun _ => h⟩)
    clear hFew
    by_cases hFo : FormedT deep size L
    · obtain ⟨d, rfl⟩ := Int.eq_ofNat_of_zero_le (show 0 ≤ deep by have := hFo.1.1; omega)
      obtain ⟨z, rfl⟩ := Int.eq_ofNat_of_zero_le (show 0 ≤ size by have := hFo.2.1.1; omega)
      have HG := Lib.hid hFo
      clear hFo
      have hl12 : len ≤ 12 := by have := HF.out.2; have := hll.out; omega
      by_cases hb0 : bv = 0
      · subst hb0
        go_enter Try.func6, Try.ntmps6
        go_wp2_with fail
        refine (awake_any _).mono ?_; rintro e w1 ⟨rfl, hb1⟩
        have HT1 := Lib.hid (HT.out.next hb1)
        clear hb1
        obtain ⟨c0, c1, c2, _⟩ := HT1.out
        go_wp2_with fail
        refine (few_any _ _ _ _ _ L _ true (Lib.hid (HRF.out true rfl)) HT1.out.2.2.2.2.1).mono ?_; rintro e w2 ⟨rfl, hb2⟩
        have HT2 := Lib.hid (HT1.out.next hb2)
        clear hb2 c0 c1 c2
        obtain ⟨c0, c1, c2, _⟩ := HT2.out
        go_wp2_with fail
        refine (rformed_any _ _ _ _ _ L _ true (Lib.hid ⟨fun _ => HG.out, fun _ => rfl⟩) HT2.out.2.2.2.2.1).mono ?_; rintro e w3 ⟨rfl, hb3⟩
        have HT3 := Lib.hid (HT2.out.next hb3)
        clear hb3 c0 c1 c2 HT HT1 HT2
        go_wp2_with fail
        refine (awake_any _).mono ?_; rintro e w4 ⟨rfl, hb4⟩
        have HT4 := Lib.hid (HT3.out.next hb4)
        clear hb4
        go_wp2_with fail
        go_ret
        exact ⟨rfl, HT4.out.2.2.2.2.2⟩
      · have hbe : (bv == 0) = false := by rw [beq_eq_false_iff_ne]; exact hb0
        have hcv2 := fun w s => run_bytes_of_string (P := Try.prog) w 9 43 5 s Try.underlying9 Try.underlying43 Try.underlying5
        go_enter Try.func6, Try.ntmps6
        go_wp2_with fail
        refine (awake_any _).mono ?_; rintro e w1 ⟨rfl, hb1⟩
        have HT1 := Lib.hid (HT.out.next hb1)
        clear hb1
        obtain ⟨c0, c1, c2, _⟩ := HT1.out
        go_wp2_with fail
        refine (few_any _ _ _ _ _ L _ true (Lib.hid (HRF.out true rfl)) HT1.out.2.2.2.2.1).mono ?_; rintro e w2 ⟨rfl, hb2⟩
        have HT2 := Lib.hid (HT1.out.next hb2)
        clear hb2 c0 c1 c2
        obtain ⟨c0, c1, c2, _⟩ := HT2.out
        go_wp2_with fail
        refine (rformed_any _ _ _ _ _ L _ true (Lib.hid ⟨fun _ => HG.out, fun _ => rfl⟩) HT2.out.2.2.2.2.1).mono ?_; rintro e w3 ⟨rfl, hb3⟩
        have HT3 := Lib.hid (HT2.out.next hb3)
        clear hb3 c0 c1 c2 HT HT1 HT2
        obtain ⟨c0, c1, c2, _⟩ := HT3.out
        obtain ⟨S, hSe⟩ : ∃ S : ByteArray, S = ⟨(writeB d z L).toArray⟩ := ⟨_, rfl⟩
        have hsz : S.size = 40 + lens L := by rw [hSe]; have h1 : (⟨(writeB d z L).toArray⟩ : ByteArray).size = (writeB d z L).length := by simp [ByteArray.size]
                                              rw [h1, writeB_len]
        have h40 : 40 ≤ S.size := by omega
        have hS10 : S.size ≤ 10000 := by
          have h1 := lens_few L HF.out len
          rw [List.take_of_length_le (by have := hll.out; omega)] at h1
          omega
        have HS := Lib.hid hSe
        clear hSe hsz
        go_wp2_with fail
        refine (write_to d z a len cap L _ S (Lib.hid HS.out.symm) HG HF (Lib.hid HT3.out.2.2.2.2.1)).mono ?_; rintro e w4 ⟨rfl, hb4⟩
        have HB4 := Lib.hid (HT3.out.2.2.2.2.2.trans (hb4.mono (Nat.le_of_lt HT3.out.2.2.2.1)))
        clear hb4
        have hi0 : 0 ≤ av % (S.size : Int) := Int.emod_nonneg _ (by omega)
        have hi1 : av % (S.size : Int) < (S.size : Int) := Int.emod_lt_of_pos _ (by omega)
        have hi2 : (av % (S.size : Int)).toNat < S.size := by omega
        have hcl : ∀ cap fz, (w4.alloc (.cells (bytesRow S cap) 5 fz)).cell? ⟨w4.heap.size, (av % (S.size : Int)).toNat, none⟩ = some (.int .u8 (S[(av % (S.size : Int)).toNat].toNat : Int)) := fun cap fz => by
          rw [World.cell?_alloc_mark]; exact bytesRow_at S cap _ hi2
        have hfz : ∀ cap, (av % (S.size : Int)).toNat < (bytesRow S cap).size := fun cap => Nat.lt_of_lt_of_le hi2 (bytesRow_size S cap)
        have hfr : ∀ cap hi, (w4.alloc (.cells (bytesRow S cap) 5 ((bytesRow S cap).size, hi))).frozen? ⟨w4.heap.size, (av % (S.size : Int)).toNat, none⟩ = false := fun cap hi => by
          rw [World.frozen?_alloc_mark, decide_eq_false (by have := hfz cap; omega)]; rfl
        obtain ⟨T, hT⟩ : ∃ T : ByteArray, T = ⟨(S.data.toList.set (av % (S.size : Int)).toNat (S[(av % (S.size : Int)).toNat] ^^^ UInt8.ofNat bv.toNat)).toArray⟩ := ⟨_, rfl⟩
        have hbk : ∀ cap fz, (convert 43 9 (.slice (some ⟨w4.heap.size, 0, none⟩) S.size cap)).run Try.prog ((w4.alloc (.cells (bytesRow S cap) 5 fz)).setCell ⟨w4.heap.size, (av % (S.size : Int)).toNat, none⟩ (.int .u8 (bits .xor .u8 (S[(av % (S.size : Int)).toNat].toNat : Int) bv))).drew
            = .ok (.string T) ((w4.alloc (.cells (bytesRow S cap) 5 fz)).setCell ⟨w4.heap.size, (av % (S.size : Int)).toNat, none⟩ (.int .u8 (bits .xor .u8 (S[(av % (S.size : Int)).toNat].toNat : Int) bv))).drew := fun cap fz => by
          rw [hT, xor_u8 _ bv hbv]
          exact back_turned S w4 cap _ fz _ hi2 _ (fun q => rfl)
        have HTT := Lib.hid hT
        clear hT
        have hne := Lib.hid (turned_ne (headB d z L) S T (writeB_of HS.out) _ hi2 _ (xor_ne _ bv hbv hb0) (set_of HTT.out))
        have hTs : T.size = S.size := size_of HTT.out
        go_wp2_with fail
        obtain ⟨wv, hwv⟩ : ∃ wv, wideTo (T.extract (T.size - 8) T.size).data.toList = wv := ⟨_, rfl⟩
        obtain ⟨sv, hsv⟩ : ∃ sv, sumL (T.extract 0 (T.size - 8)).data.toList = sv := ⟨_, rfl⟩
        have hnn : ((wv : Int) != (sv : Int)) = true := by
          have := hne.out
          rw [hwv, hsv] at this
          rw [bne_iff_ne]; omega
        refine (read_sum T _ (by omega) (by omega) wv sv (Lib.hid hwv) (Lib.hid hsv) hnn).mono ?_; rintro e w5 ⟨rfl, hb5⟩
        have HB5 := Lib.hid (bel3 HB4.out hb5)
        clear hb5 hwv hsv hcl hbk hfr hfz
        go_wp2_with fail
        refine (same_none _).mono ?_; rintro e w6 ⟨rfl, hb6⟩
        have HB6 := Lib.hid ((HB5.out.alloc HB5.out.size _).trans (hb6.mono (HB5.out.alloc HB5.out.size _).size))
        clear hb6
        go_wp2_with fail
        go_ret
        exact ⟨rfl, HB6.out⟩
    · have hR0 : Hid (∀ R : Bool, R = false → (R = true ↔ FormedT deep size L)) := Lib.hid (fun R h => ⟨fun h' => absurd (h.symm.trans h') (by decide), fun h' => absurd h' hFo⟩)
      clear hFo
      go_enter Try.func6, Try.ntmps6
      go_wp2_with fail
      refine (awake_any _).mono ?_; rintro e w1 ⟨rfl, hb1⟩
      have HT1 := Lib.hid (HT.out.next hb1)
      clear hb1
      obtain ⟨c0, c1, c2, _⟩ := HT1.out
      go_wp2_with fail
      refine (few_any _ _ _ _ _ L _ true (Lib.hid (HRF.out true rfl)) HT1.out.2.2.2.2.1).mono ?_; rintro e w2 ⟨rfl, hb2⟩
      have HT2 := Lib.hid (HT1.out.next hb2)
      clear hb2 c0 c1 c2
      obtain ⟨c0, c1, c2, _⟩ := HT2.out
      go_wp2_with fail
      refine (rformed_any _ _ _ _ _ L _ false (Lib.hid (hR0.out false rfl)) HT2.out.2.2.2.2.1).mono ?_; rintro e w3 ⟨rfl, hb3⟩
      have HT3 := Lib.hid (HT2.out.next hb3)
      clear hb3 c0 c1 c2 HT HT1 HT2
      go_wp2_with fail
      refine (awake_any _).mono ?_; rintro e w4 ⟨rfl, hb4⟩
      have HT4 := Lib.hid (HT3.out.next hb4)
      clear hb4
      go_wp2_with fail
      go_ret
      exact ⟨rfl, HT4.out.2.2.2.2.2⟩
  · have hR0 : Hid (∀ R : Bool, R = false → (R = true ↔ FewT L)) := Lib.hid (fun R h => ⟨fun h' => absurd (h.symm.trans h') (by decide), fun h' => absurd h' hFew⟩)
    clear hFew
    go_enter Try.func6, Try.ntmps6
    go_wp2_with fail
    refine (awake_any _).mono ?_; rintro e w1 ⟨rfl, hb1⟩
    have HT1 := Lib.hid (HT.out.next hb1)
    clear hb1
    obtain ⟨c0, c1, c2, _⟩ := HT1.out
    go_wp2_with fail
    refine (few_any _ _ _ _ _ L _ false (Lib.hid (hR0.out false rfl)) HT1.out.2.2.2.2.1).mono ?_; rintro e w2 ⟨rfl, hb2⟩
    have HT2 := Lib.hid (HT1.out.next hb2)
    clear hb2 c0 c1 c2
    go_wp2_with fail
    refine (awake_any _).mono ?_; rintro e w4 ⟨rfl, hb4⟩
    have HT4 := Lib.hid (HT2.out.next hb4)
    clear hb4
    go_wp2_with fail
    go_ret
    exact ⟨rfl, HT4.out.2.2.2.2.2⟩
end Go.Proofs.Ytdbdmpdfjhmfhaa
