/- The walk of the reference's Text. -/
import Derived.Test.YtlckidgeooiboaaEW8
import Derived.Test.YtlckidgeooiboaaEL4
namespace Go.Proofs.Ytlckidgeooiboaa
open Go.RowKit Go.Proofs.Lw Go.Proofs.Le
set_option linter.unusedVariables false
theorem rtext_0 (s : ByteArray) (w : World) (ok : Bool) (hsc : Calls Try.prog 23 #[.string s] w fun r w' => ∃ a cap, r = .returned (.tuple #[.slice a 0 cap, .bool ok]) ∧ Below w.heap.size w w') :
    Calls Try.prog 12 #[.string s] w fun r w' => r = .returned (.tuple #[.string ⟨#[]⟩, .bool ok]) ∧ Below w.heap.size w w' := by
  go_enter Try.func12, Try.ntmps12
  go_wp2_with fail
  refine hsc.mono ?_; rintro r w1 ⟨a, cap, rfl, hb⟩
  have HB := Lib.hid hb
  clear hsc hb
  go_wp2_with fail
  go_loopg [6, 7] 1 (fun g t i wr => g = 1 ∧ t = .string ⟨#[]⟩ ∧ i = .int .i64 0 ∧ wr = w1)
  case atStart => exact ⟨rfl, rfl, rfl, rfl⟩
  case round =>
    obtain ⟨rfl, rfl, rfl, rfl⟩ := hrel
    go_wp2_with fail
    go_ret2
    exact ⟨rfl, HB.out⟩
theorem own_at {w wr : World} {g cap : Nat} {L : List Int} (h : wr.ownsRow w.heap.size 3 1 (.slice (some ⟨g, 0, none⟩) L.length cap) L.length (ints L)) (k : Nat) (hk : k < L.length) : wr.cell? ⟨g, k, none⟩ = some (.int .i64 L[k]) := by
  rw [h.cellAt k (by omega)]
  simp [ints, hk]
theorem putS_snoc (L : List Int) (k : Nat) (hk : k < L.length) : putS (L.take (k + 1)) = putS (L.take k) ++ putL L[k] := by
  have h : ∀ A : List Int, ∀ c, putS (A ++ [c]) = putS A ++ putL c := by
    intro A c
    induction A with
    | nil => simp [putS]
    | cons a A ih => rw [List.cons_append, putS, putS, ih, List.append_assoc]
  rw [List.take_succ_eq_append_getElem hk, h]
theorem str_put (c : Int) : (strOfNums (putN c)).data.toList = putL c := by rw [strOfNums_data]; rfl
set_option maxRecDepth 100000 in
set_option maxHeartbeats 1000000 in
theorem rtext_main (s : ByteArray) (w : World) (T : ByteArray) (L : List Int) (hsc : Calls Try.prog 23 #[.string s] w fun r w' => ∃ v, r = .returned (.tuple #[v, .bool true]) ∧ w'.ownsRow w.heap.size 3 1 v L.length (ints L) ∧ Below w.heap.size w w') (hT : Hid (T.data.toList = putS L)) (hL : L.length ≤ 100000) (h0 : 0 < L.length) :
    Calls Try.prog 12 #[.string s] w fun r w' => r = .returned (.tuple #[.string T, .bool true]) ∧ Below w.heap.size w w' := by
  go_enter Try.func12, Try.ntmps12
  go_wp2_with fail
  refine hsc.mono ?_; rintro r w1 ⟨v, rfl, ho, hb⟩
  obtain ⟨g, cap, rfl⟩ : ∃ g cap, v = .slice (some ⟨g, 0, none⟩) L.length cap := by
    rcases ho.2 with ⟨_, h⟩ | ⟨g, cap, cur, h, _⟩
    · omega
    · exact ⟨g, cap, h⟩
  have HS : Hid (SI w w1 (.slice (some ⟨g, 0, none⟩) L.length cap) L) := Lib.hid ⟨ho, hb⟩
  clear hsc hb ho
  go_wp2_with fail
  go_loopg [6, 7] L.length (fun gh t i wr => ∃ (k : Nat) (S : ByteArray), k ≤ L.length ∧ gh = L.length - k ∧ t = .string S ∧ i = .int .i64 k ∧ S.size ≤ 4 * k ∧ Hid (S.data.toList = putS (L.take k)) ∧ Hid (SI w wr (.slice (some ⟨g, 0, none⟩) L.length cap) L))
  case atStart => exact ⟨0, ⟨#[]⟩, Nat.zero_le _, rfl, rfl, rfl, by decide, Lib.hid rfl, HS⟩
  case round =>
    clear HS
    obtain ⟨k, S, hk, rfl, rfl, rfl, hz, hS, HS⟩ := hrel
    by_cases hlt : k < L.length
    · have hdk : decide ((k : Int) < (L.length : Int)) = true := by rw [decide_eq_true_eq]; omega
      have hcell := own_at HS.out.1 k hlt
      obtain ⟨c, hc⟩ : ∃ c, L[k] = c := ⟨_, rfl⟩
      rw [hc] at hcell
      have hN : Hid ((S ++ strOfNums (putN c)).data.toList = putS (L.take (k + 1))) := Lib.hid (by rw [putS_snoc L k hlt, hc, ← str_put, ← hS.out]; simp)
      have hz2 := strOf_size c
      have hlt' : (k : Int) < (L.length : Int) := by omega
      have wz : ¬ 9223372036854775807 < S.size + (strOfNums (putN c)).size := by omega
      clear hc
      go_wp2_with fail
      refine (rput_any c _).mono ?_; rintro r w2 ⟨rfl, hb2⟩
      have HS2 := Lib.hid (HS.out.below hb2)
      clear hb2
      go_wp2_with fail
      go_roundg (L.length - (k + 1))
      case measure => go_light; omega
      case rel => go_light; exact ⟨k + 1, _, by omega, rfl, rfl, by go_num, by rw [ByteArray.size_append]; omega, hN, HS2⟩
    · have hdk : decide ((k : Int) < (L.length : Int)) = false := by rw [decide_eq_false_iff_not]; omega
      have hE : Hid (S = T) := Lib.hid (by
        apply ByteArray.ext; apply Array.toList_inj.1
        rw [hT.out, hS.out, List.take_of_length_le (by omega)])
      go_wp2_with fail
      go_ret2
      exact ⟨by rw [← hE.out]; rfl, HS.out.2⟩
set_option maxRecDepth 100000 in
set_option maxHeartbeats 1000000 in
theorem rscalars_short (s : ByteArray) (w : World) (h : s.size < 2) :
    Calls Try.prog 23 #[.string s] w fun r w' => r = .returned (.tuple #[.slice none 0 0, .bool false]) ∧ Below w.heap.size w w' := by
  have h' : (s.size : Int) < 2 := by omega
  go_enter Try.func23, Try.ntmps23
  go_wp2_with fail
  go_ret2
  exact ⟨rfl, Below.refl _ _⟩
set_option maxRecDepth 100000 in
set_option maxHeartbeats 1000000 in
theorem rscalars_head (s : ByteArray) (w : World) (hs : s.size ≤ 1000) (h : 2 ≤ s.size) (hb : (((s[0]'(by omega)).toNat : Int) != 34) = true) :
    Calls Try.prog 23 #[.string s] w fun r w' => r = .returned (.tuple #[.slice none 0 0, .bool false]) ∧ Below w.heap.size w w' := by
  have h' : ¬ (s.size : Int) < 2 := by omega
  go_enter Try.func23, Try.ntmps23
  go_wp2_with fail
  go_ret2
  exact ⟨rfl, Below.refl _ _⟩
set_option maxRecDepth 100000 in
set_option maxHeartbeats 1000000 in
theorem rscalars_last (s : ByteArray) (e : Nat) (w : World) (hs : s.size ≤ 1000) (he : (s.size : Int) = e + 1) (h1 : 1 ≤ e) (hb : (((s[0]'(by omega)).toNat : Int) != 34) = false) (hl : (((s[e]'(by omega)).toNat : Int) != 34) = true) :
    Calls Try.prog 23 #[.string s] w fun r w' => r = .returned (.tuple #[.slice none 0 0, .bool false]) ∧ Below w.heap.size w w' := by
  have k0 : (s.size : Int) - 1 = (e : Int) := by omega
  have k1 : ¬ (s.size : Int) < 2 := by omega
  have k2 : (e : Int) < (s.size : Int) := by omega
  go_enter Try.func23, Try.ntmps23
  go_wp2_with fail
  go_ret2
  exact ⟨rfl, Below.refl _ _⟩
theorem okS_last (f : Nat) (x : List UInt8) (hf : x.length < f) (h : okS f x) : x.getLast? = some 34 := by
  induction f generalizing x with
  | zero => omega
  | succ f ih =>
    by_cases hc : x ≠ [] ∧ x.head? ≠ some 34
    · rw [okS_in hc] at h
      obtain ⟨c, m, hcm⟩ : ∃ c m, charP x = (c, m) := ⟨_, _, rfl⟩
      rw [hcm] at h
      have hm := (charP_len x c m hcm (uscal_le _)).2 h.1
      have := ih (x.drop m) (by rw [List.length_drop]; omega) h.2
      rw [List.getLast?_drop] at this
      split at this
      · exact absurd this (by simp)
      · exact this
    · rw [okS_out hc] at h
      obtain ⟨a, rfl⟩ := List.length_eq_one_iff.1 h
      by_cases ha : a = 34
      · rw [ha]; rfl
      · exact absurd ⟨by simp, by simpa using ha⟩ hc
theorem chS_len (f : Nat) (x : List UInt8) : (chS f x).length ≤ f := by
  induction f generalizing x with
  | zero => simp [chS]
  | succ f ih =>
    rw [chS]
    split
    · have := ih (x.drop (charP x).2); simp only [List.length_cons]; omega
    · simp
theorem list_parts (s : ByteArray) (e : Nat) (he : s.size = e + 1) (h1 : 1 ≤ e) (hl : s[e]'(by omega) = 34) : s.data.toList.drop 1 = (s.data.toList.take e).drop 1 ++ [34] := by
  have hlen : s.data.toList.length = e + 1 := by rw [← Lib.size_eq]; exact he
  have : s.data.toList = s.data.toList.take e ++ [34] := by
    have h2 : s.data.toList.drop e = [34] := by
      rw [List.drop_eq_getElem_cons (by omega), List.drop_of_length_le (by omega)]
      congr 1
    rw [← h2, List.take_append_drop]
  have h3 : 1 ≤ (s.data.toList.take e).length := by rw [List.length_take]; omega
  calc s.data.toList.drop 1 = (s.data.toList.take e ++ [34]).drop 1 := by rw [← this]
    _ = _ := List.drop_append_of_le_length h3
/-- the reference's Scalars, of no string -/
theorem scal_no (s : ByteArray) (w : World) (hs : s.size ≤ 1000) (h : Hid (¬ OkL s.data.toList)) :
    Calls Try.prog 23 #[.string s] w fun r w' => r = .returned (.tuple #[.slice none 0 0, .bool false]) ∧ Below w.heap.size w w' := by
  by_cases h2 : s.size < 2
  · exact rscalars_short s w h2
  · obtain ⟨e, he⟩ : ∃ e, s.size = e + 1 := ⟨s.size - 1, by omega⟩
    by_cases h0 : s[0]'(by omega) = 34
    · by_cases hl : s[e]'(by omega) = 34
      · refine (rscalars_any s e w hs (by omega) (by omega) ((u8_int (n := 34) (by decide)).2 h0) ((u8_int (n := 34) (by decide)).2 hl) none (Lib.hid ?_)).mono ?_
        · refine (rA_link (e + 2) _ [] (by rw [List.length_drop, List.length_take]; omega)).2 ?_
          rw [← list_parts s e he (by omega) hl]
          intro ho
          refine h.out ((ok_iff _).2 ⟨?_, ?_⟩)
          · have := Lib.size_eq s
            rw [List.getElem?_eq_getElem (by omega)]; exact congrArg some h0
          · rw [← Lib.size_eq, he]; exact ho
        · rintro r w' hr; exact hr.1 rfl
      · exact rscalars_last s e w hs (by omega) (by omega) (by rw [bne_eq_false_iff_eq]; exact (u8_int (n := 34) (by decide)).2 h0) (by rw [bne_iff_ne]; exact fun h => hl ((u8_int (n := 34) (by decide)).1 h))
    · exact rscalars_head s w hs (by omega) (by rw [bne_iff_ne]; exact fun h => h0 ((u8_int (n := 34) (by decide)).1 h))
theorem ok_marks (s : ByteArray) (h : OkL s.data.toList) : ∃ e, ∃ he : s.size = e + 1, 1 ≤ e ∧ s[0]'(by omega) = 34 ∧ s[e]'(by omega) = 34 := by
  obtain ⟨h1, h2⟩ := (ok_iff _).1 h
  have hz := Lib.size_eq s
  have h3 := okS_last _ _ (by rw [List.length_drop]; omega) h2
  have h0 : 2 ≤ s.size := by
    rcases Nat.lt_or_ge s.size 2 with h' | h'
    · rw [List.drop_of_length_le (by omega)] at h3; exact absurd h3 (by simp)
    · exact h'
  refine ⟨s.size - 1, by omega, by omega, ?_, ?_⟩
  · rw [List.getElem?_eq_getElem (by omega)] at h1; injection h1
  · rw [List.getLast?_drop, if_neg (by omega), List.getLast?_eq_getElem?, List.getElem?_eq_getElem (by omega)] at h3
    injection h3 with h3
/-- the reference's Scalars, of a string -/
theorem scal_yes (s : ByteArray) (hs : s.size ≤ 1000) (h : Hid (OkL s.data.toList)) : ∃ L : List Int, Hid (putS L = textP (charsL s.data.toList)) ∧ L.length ≤ 1002 ∧ ∀ w : World,
    Calls Try.prog 23 #[.string s] w fun r w' => ∃ v, r = .returned (.tuple #[v, .bool true]) ∧ w'.ownsRow w.heap.size 3 1 v L.length (ints L) ∧ Below w.heap.size w w' := by
  obtain ⟨e, he, h1, h0, hl⟩ := ok_marks s h.out
  obtain ⟨o1, o2⟩ := (ok_iff _).1 h.out
  have hz := Lib.size_eq s
  have hlink := (rA_link (e + 2) ((s.data.toList.take e).drop 1) [] (by rw [List.length_drop, List.length_take]; omega)).1
  rw [← list_parts s e he h1 hl] at hlink
  have e2 : s.data.toList.length + 1 = e + 2 := by omega
  rw [e2] at o2
  have hR := hlink o2
  rw [List.nil_append] at hR
  refine ⟨chS (e + 2) (s.data.toList.drop 1), Lib.hid ?_, Nat.le_trans (chS_len _ _) (by omega), fun w => ?_⟩
  · rw [charsL, if_pos o1, e2, evs_text _ _ _ o2]
  · refine (rscalars_any s e w hs (by omega) h1 ((u8_int (n := 34) (by decide)).2 h0) ((u8_int (n := 34) (by decide)).2 hl) _ (Lib.hid hR)).mono ?_
    rintro r w' hr; exact hr.2 _ rfl
theorem rtext_no (s : ByteArray) (w : World) (hs : s.size ≤ 1000) (h : Hid (¬ OkL s.data.toList)) :
    Calls Try.prog 12 #[.string s] w fun r w' => r = .returned (.tuple #[.string ⟨#[]⟩, .bool false]) ∧ Below w.heap.size w w' :=
  rtext_0 s w false ((scal_no s w hs h).mono fun r w' h => ⟨_, _, h.1, h.2⟩)
theorem rtext_yes (s T : ByteArray) (w : World) (hs : s.size ≤ 1000) (h : Hid (OkL s.data.toList)) (hT : Hid (T.data.toList = textP (charsL s.data.toList))) :
    Calls Try.prog 12 #[.string s] w fun r w' => r = .returned (.tuple #[.string T, .bool true]) ∧ Below w.heap.size w w' := by
  obtain ⟨L, hL, hl, hc⟩ := scal_yes s hs h
  by_cases h0 : 0 < L.length
  · exact rtext_main s w T L (hc w) (Lib.hid (by rw [hT.out, hL.out])) (by omega) h0
  · obtain rfl : L = [] := List.eq_nil_of_length_eq_zero (by omega)
    have hT0 : T = (⟨#[]⟩ : ByteArray) := by
      have h1 := hT.out
      rw [← hL.out] at h1
      exact of_list h1
    rw [hT0]
    refine rtext_0 s w true ((hc w).mono ?_)
    rintro r w' ⟨v, rfl, ho, hb⟩
    rcases ho.2 with ⟨rfl, _⟩ | ⟨g, cap, cur, rfl, _⟩
    · exact ⟨_, _, rfl, hb⟩
    · exact ⟨_, _, rfl, hb⟩
end Go.Proofs.Ytlckidgeooiboaa
