/- The reference's Scalar is Scalar; the laws UtfScalars and UtfBack. -/
import Derived.Test.YtlckidgeooiboaaUW6
import Derived.Test.YtlckidgeooiboaaUPlain4
import Derived.Lib.Strings
namespace Go.Proofs.Ytlckidgeooiboaa
open Go.RowKit Go.Proofs.Lw

theorem hit_iff (c : Int) (s : ByteArray) (n : Nat) : hit c s n = true ↔ putN c = nums (s.data.toList.take n) := by
  rw [hit, beq_iff_eq, Lib.toList_data, Lib.extract_toList, strOfNums_data]
  simp only [List.drop_zero, Nat.sub_zero]
  exact putL_eq_iff c _

theorem tup_eq {a b c d : Int} (h1 : a = c) (h2 : b = d) : Ending.returned (.tuple #[.int .i64 a, .int .i64 b]) = .returned (.tuple #[.int .i64 c, .int .i64 d]) := by rw [h1, h2]

theorem rscalar_any (s : ByteArray) (w : World) :
    Calls Try.prog 28 #[.string s] w fun e w' => e = .returned (.tuple #[.int .i64 (uscal s.data.toList).1, .int .i64 ((uscal s.data.toList).2 : Nat)]) ∧ Below w.heap.size w w' := by
  have hsz : s.size = s.data.toList.length := Lib.size_eq s
  by_cases h0 : s.size = 0
  · have e : s.data.toList = [] := List.eq_nil_of_length_eq_zero (by omega)
    rw [e]; exact rscal_none s w h0
  · have h0' : 0 < s.size := by omega
    obtain ⟨b0, t, e⟩ : ∃ b0 t, s.data.toList = b0 :: t := by
      cases h : s.data.toList with
      | nil => rw [h] at hsz; exact absurd hsz h0
      | cons a l => exact ⟨a, l, rfl⟩
    have e0 : s[0] = b0 := by
      have := byt_eq s 0 h0'
      simp only [byt, e, List.getD_cons_zero] at this
      exact (UInt8.toNat_inj.1 (by omega)).symm
    have hb := u8_le b0
    by_cases c1 : (b0.toNat : Int) < 128
    · refine (rscal_1 s w h0' (by rw [e0]; exact c1)).mono fun e' w' h => ?_
      rw [e, U_0 _ _ c1]; rw [e0] at h; exact h
    · by_cases c2 : 248 ≤ (b0.toNat : Int) ∨ (128 ≤ (b0.toNat : Int) ∧ (b0.toNat : Int) < 192)
      · refine (rscal_no s w h0' (by rw [e0]; exact c2)).mono fun e' w' h => ?_
        rw [e, U_bad _ _ (by omega)]; exact h
      · by_cases c3 : (b0.toNat : Int) < 224
        · by_cases hl : s.size < 2
          · refine (rscal_short s w h0' (by rw [e0]; omega)).mono fun e' w' h => ?_
            have et : t = [] := by
              rw [e] at hsz; simp only [List.length_cons] at hsz; exact List.eq_nil_of_length_eq_zero (by omega)
            have : uscal s.data.toList = (0, 0) := by
              rw [e, et]
              by_cases hb2 : 194 ≤ (b0.toNat : Int)
              · exact U_2s b0 ⟨hb2, c3⟩
              · exact U_bad b0 [] (by omega)
            rw [this]; exact h
          · obtain ⟨b1, t', et⟩ : ∃ b1 t', t = b1 :: t' := by
              cases h : t with
              | nil => rw [e, h] at hsz; simp only [List.length_cons, List.length_nil] at hsz; omega
              | cons a l => exact ⟨a, l, rfl⟩
            subst et
            have e1 : s[1] = b1 := by
              have := byt_eq s 1 (by omega)
              simp only [byt, e, List.getD_cons_succ, List.getD_cons_zero] at this
              exact (UInt8.toNat_inj.1 (by omega)).symm
            refine (rscal_2 s w (by omega) (by rw [e0]; omega) (by rw [e0]; omega) _ (Lib.hid rfl)).mono fun e' w' h => ?_
            rw [e0, e1] at h
            have hh := hit_iff (((b0.toNat : Int) - 192) * 64 + (b1.toNat : Int) % 64) s 2
            rw [e, show List.take 2 (b0 :: b1 :: t') = [b0, b1] from rfl, H_2 b0 b1 (by omega)] at hh
            have : uscal s.data.toList = rfin s (((b0.toNat : Int) - 192) * 64 + (b1.toNat : Int) % 64) 2 := by
              rw [e, rfin]
              by_cases hv : 194 ≤ (b0.toNat : Int) ∧ 128 ≤ (b1.toNat : Int) ∧ (b1.toNat : Int) ≤ 191
              · rw [if_pos (hh.2 hv), U_2 _ _ _ ⟨hv.1, c3⟩, if_pos hv.2]
              · rw [if_neg (fun x => hv (hh.1 x))]
                by_cases hb2 : 194 ≤ (b0.toNat : Int)
                · rw [U_2 _ _ _ ⟨hb2, c3⟩, if_neg (fun x => hv ⟨hb2, x⟩)]
                · exact U_bad b0 _ (by omega)
            rw [this]; exact h
        · by_cases c4 : (b0.toNat : Int) < 240
          · by_cases hl : s.size < 3
            · refine (rscal_short s w h0' (by rw [e0]; omega)).mono fun e' w' h => ?_
              rw [e, U_3s b0 t (by omega) (by rw [e] at hsz; simp only [List.length_cons] at hsz; omega)]; exact h
            · obtain ⟨b1, b2, t', et⟩ : ∃ b1 b2 t', t = b1 :: b2 :: t' := by
                match t, e with
                | [], e => rw [e] at hsz; simp only [List.length_cons, List.length_nil] at hsz; omega
                | [a], e => rw [e] at hsz; simp only [List.length_cons, List.length_nil] at hsz; omega
                | a :: b :: l, _ => exact ⟨a, b, l, rfl⟩
              subst et
              have e1 : s[1] = b1 := by
                have := byt_eq s 1 (by omega)
                simp only [byt, e, List.getD_cons_succ, List.getD_cons_zero] at this
                exact (UInt8.toNat_inj.1 (by omega)).symm
              have e2 : s[2] = b2 := by
                have := byt_eq s 2 (by omega)
                simp only [byt, e, List.getD_cons_succ, List.getD_cons_zero] at this
                exact (UInt8.toNat_inj.1 (by omega)).symm
              refine (rscal_3 s w (by omega) (by rw [e0]; omega) (by rw [e0]; omega) _ (Lib.hid rfl)).mono fun e' w' h => ?_
              rw [e0, e1, e2] at h
              have hh := hit_iff ((((b0.toNat : Int) - 224) * 64 + (b1.toNat : Int) % 64) * 64 + (b2.toNat : Int) % 64) s 3
              rw [e, show List.take 3 (b0 :: b1 :: b2 :: t') = [b0, b1, b2] from rfl, H_3 b0 b1 b2 (by omega)] at hh
              have : uscal s.data.toList = rfin s ((((b0.toNat : Int) - 224) * 64 + (b1.toNat : Int) % 64) * 64 + (b2.toNat : Int) % 64) 3 := by
                rw [e, rfin, U_3 _ _ _ _ (by omega)]
                by_cases hv : (low3 b0.toNat ≤ (b1.toNat : Int) ∧ (b1.toNat : Int) ≤ high3 b0.toNat) ∧ 128 ≤ (b2.toNat : Int) ∧ (b2.toNat : Int) ≤ 191
                · rw [if_pos (hh.2 hv), if_pos hv]
                · rw [if_neg (fun x => hv (hh.1 x)), if_neg hv]
              rw [this]; exact h
          · by_cases hl : s.size < 4
            · refine (rscal_short s w h0' (by rw [e0]; omega)).mono fun e' w' h => ?_
              by_cases c5 : (b0.toNat : Int) < 245
              · rw [e, U_4s b0 t (by omega) (by rw [e] at hsz; simp only [List.length_cons] at hsz; omega)]; exact h
              · rw [e, U_bad b0 t (by omega)]; exact h
            · obtain ⟨b1, b2, b3, t', et⟩ : ∃ b1 b2 b3 t', t = b1 :: b2 :: b3 :: t' := by
                match t, e with
                | [], e => rw [e] at hsz; simp only [List.length_cons, List.length_nil] at hsz; omega
                | [a], e => rw [e] at hsz; simp only [List.length_cons, List.length_nil] at hsz; omega
                | [a, b], e => rw [e] at hsz; simp only [List.length_cons, List.length_nil] at hsz; omega
                | a :: b :: c :: l, _ => exact ⟨a, b, c, l, rfl⟩
              subst et
              have e1 : s[1] = b1 := by
                have := byt_eq s 1 (by omega)
                simp only [byt, e, List.getD_cons_succ, List.getD_cons_zero] at this
                exact (UInt8.toNat_inj.1 (by omega)).symm
              have e2 : s[2] = b2 := by
                have := byt_eq s 2 (by omega)
                simp only [byt, e, List.getD_cons_succ, List.getD_cons_zero] at this
                exact (UInt8.toNat_inj.1 (by omega)).symm
              have e3 : s[3] = b3 := by
                have := byt_eq s 3 (by omega)
                simp only [byt, e, List.getD_cons_succ, List.getD_cons_zero] at this
                exact (UInt8.toNat_inj.1 (by omega)).symm
              refine (rscal_4 s w (by omega) (by rw [e0]; omega) (by rw [e0]; omega) _ (Lib.hid rfl)).mono fun e' w' h => ?_
              rw [e0, e1, e2, e3] at h
              have hh := hit_iff (((((b0.toNat : Int) - 240) * 64 + (b1.toNat : Int) % 64) * 64 + (b2.toNat : Int) % 64) * 64 + (b3.toNat : Int) % 64) s 4
              rw [e, show List.take 4 (b0 :: b1 :: b2 :: b3 :: t') = [b0, b1, b2, b3] from rfl, H_4 b0 b1 b2 b3 (by omega)] at hh
              have : uscal s.data.toList = rfin s (((((b0.toNat : Int) - 240) * 64 + (b1.toNat : Int) % 64) * 64 + (b2.toNat : Int) % 64) * 64 + (b3.toNat : Int) % 64) 4 := by
                rw [e, rfin]
                by_cases c5 : (b0.toNat : Int) < 245
                · rw [U_4 _ _ _ _ _ (by omega)]
                  by_cases hv : (low4 b0.toNat ≤ (b1.toNat : Int) ∧ (b1.toNat : Int) ≤ high4 b0.toNat) ∧ (128 ≤ (b2.toNat : Int) ∧ (b2.toNat : Int) ≤ 191) ∧ 128 ≤ (b3.toNat : Int) ∧ (b3.toNat : Int) ≤ 191
                  · rw [if_pos (hh.2 ⟨c5, hv⟩), if_pos hv]
                  · rw [if_neg (fun x => hv (hh.1 x).2), if_neg hv]
                · rw [if_neg (fun x => c5 (hh.1 x).1), U_bad b0 _ (by omega)]
              rw [this]; exact h
end Go.Proofs.Ytlckidgeooiboaa
