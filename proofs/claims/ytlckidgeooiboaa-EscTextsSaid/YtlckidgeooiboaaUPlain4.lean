/- Plain laws of the UTF layer: what Scalar answers, by the classes of the first byte. -/
import Derived.Test.YtlckidgeooiboaaUPlain3
namespace Go.Proofs.Lw
theorem ustep_1 (b : Int) : ustep 1 b = if b < 128 ∨ 191 < b then 8 else 0 := rfl
theorem ustep_2 (b : Int) : ustep 2 b = if b < 128 ∨ 191 < b then 8 else 1 := rfl
theorem ustep_3 (b : Int) : ustep 3 b = if b < 128 ∨ 191 < b then 8 else 2 := rfl
theorem ustep_4 (b : Int) : ustep 4 b = if b < 160 ∨ 191 < b then 8 else 1 := rfl
theorem ustep_5 (b : Int) : ustep 5 b = if b < 128 ∨ 159 < b then 8 else 1 := rfl
theorem ustep_6 (b : Int) : ustep 6 b = if b < 144 ∨ 191 < b then 8 else 2 := rfl
theorem ustep_7 (b : Int) : ustep 7 b = if b < 128 ∨ 143 < b then 8 else 2 := rfl
theorem ustep_0 (b : Int) : ustep 0 b = ufirst b := rfl
theorem S1 (c : Int) (i : Nat) (b : UInt8) (l : List UInt8) : uscalS 1 c (i + 1) (b :: l) = if 128 ≤ (b.toNat : Int) ∧ (b.toNat : Int) ≤ 191 then (c * 64 + (b.toNat : Int) % 64, i + 2) else (0, 0) := by
  rw [uscalS_cons, ustep_1]
  by_cases h : 128 ≤ (b.toNat : Int) ∧ (b.toNat : Int) ≤ 191
  · rw [if_pos h, if_neg (by omega : ¬ ((b.toNat : Int) < 128 ∨ 191 < (b.toNat : Int)))]; simp
  · rw [if_neg h, if_pos (by omega : ((b.toNat : Int) < 128 ∨ 191 < (b.toNat : Int)))]; simp
theorem Sgo (st n lo hi c : Int) (i : Nat) (b : UInt8) (l : List UInt8) (h : ∀ x, ustep st x = if x < lo ∨ hi < x then 8 else n) (hn : n ≠ 8) (hn0 : n ≠ 0) :
    uscalS st c (i + 1) (b :: l) = if lo ≤ (b.toNat : Int) ∧ (b.toNat : Int) ≤ hi then uscalS n (c * 64 + (b.toNat : Int) % 64) (i + 2) l else (0, 0) := by
  rw [uscalS_cons, h]
  by_cases h : lo ≤ (b.toNat : Int) ∧ (b.toNat : Int) ≤ hi
  · rw [if_pos h, if_neg (by omega : ¬ ((b.toNat : Int) < lo ∨ hi < (b.toNat : Int))), if_neg hn, if_neg hn0]; simp
  · rw [if_neg h, if_pos (by omega : ((b.toNat : Int) < lo ∨ hi < (b.toNat : Int)))]; simp
theorem Sbeg (n : Int) (b : UInt8) (l : List UInt8) (h : ufirst b.toNat = n) (hn : n ≠ 8) (hn0 : n ≠ 0) : uscal (b :: l) = uscalS n (ufirstC b.toNat) 1 l := by
  rw [uscal, uscalS_cons, ustep_0, h, if_neg hn, if_neg hn0, if_neg (Nat.lt_irrefl 0)]
theorem Sdead (b : UInt8) (l : List UInt8) (h : ufirst b.toNat = 8) : uscal (b :: l) = (0, 0) := by
  rw [uscal, uscalS_cons, ustep_0, h]; rfl
theorem f_dead (b : Int) (h : 128 ≤ b ∧ b < 194 ∨ 245 ≤ b) : ufirst b = 8 := by
  unfold ufirst
  rcases h with h | h <;> (repeat rw [if_neg (by omega)])
theorem f_1 (b : Int) (h : 194 ≤ b ∧ b < 224) : ufirst b = 1 := by unfold ufirst; (repeat' split) <;> omega
theorem f_2 (b : Int) (h : 225 ≤ b ∧ b < 240 ∧ b ≠ 237) : ufirst b = 2 := by unfold ufirst; (repeat' split) <;> omega
theorem f_3 (b : Int) (h : 241 ≤ b ∧ b < 244) : ufirst b = 3 := by unfold ufirst; (repeat' split) <;> omega
theorem U_0 (b : UInt8) (l : List UInt8) (h : (b.toNat : Int) < 128) : uscal (b :: l) = ((b.toNat : Int), 1) := by
  rw [uscal, uscalS_cons, ustep_0, show ufirst (b.toNat : Int) = 0 from by unfold ufirst; rw [if_pos h]]
  simp [ufirstC, h]
theorem U_none : uscal [] = (0, 0) := rfl
theorem U_bad (b : UInt8) (l : List UInt8) (h : 128 ≤ (b.toNat : Int) ∧ (b.toNat : Int) < 194 ∨ 245 ≤ (b.toNat : Int)) : uscal (b :: l) = (0, 0) := Sdead b l (f_dead _ h)

theorem U_2 (b0 b1 : UInt8) (l : List UInt8) (h : 194 ≤ (b0.toNat : Int) ∧ (b0.toNat : Int) < 224) :
    uscal (b0 :: b1 :: l) = if 128 ≤ (b1.toNat : Int) ∧ (b1.toNat : Int) ≤ 191 then ((b0.toNat - 192 : Int) * 64 + (b1.toNat : Int) % 64, 2) else (0, 0) := by
  rw [Sbeg 1 _ _ (f_1 _ h) (by decide) (by decide), S1 _ 0,
    show ufirstC (b0.toNat : Int) = b0.toNat - 192 from by unfold ufirstC; rw [if_neg (by omega), if_pos (by omega)]; omega]
theorem U_2s (b0 : UInt8) (h : 194 ≤ (b0.toNat : Int) ∧ (b0.toNat : Int) < 224) : uscal [b0] = (0, 0) := by
  rw [Sbeg 1 _ _ (f_1 _ h) (by decide) (by decide)]; rfl

def low3 (b : Int) : Int := if b = 224 then 160 else 128
def high3 (b : Int) : Int := if b = 237 then 159 else 191
def low4 (b : Int) : Int := if b = 240 then 144 else 128
def high4 (b : Int) : Int := if b = 244 then 143 else 191
theorem U_3' (b0 : UInt8) (l : List UInt8) (h : 224 ≤ (b0.toNat : Int) ∧ (b0.toNat : Int) < 240) :
    uscal (b0 :: l) = match l with | [] => (0, 0) | b1 :: l => if low3 b0.toNat ≤ (b1.toNat : Int) ∧ (b1.toNat : Int) ≤ high3 b0.toNat then uscalS 1 ((b0.toNat - 224 : Int) * 64 + (b1.toNat : Int) % 64) 2 l else (0, 0) := by
  have e : ufirstC (b0.toNat : Int) = b0.toNat - 224 := by unfold ufirstC; rw [if_neg (by omega), if_neg (by omega), if_pos (by omega)]; omega
  by_cases h4 : (b0.toNat : Int) = 224
  · rw [Sbeg 4 _ _ (by rw [h4]; rfl) (by decide) (by decide), e, low3, high3, if_pos h4, if_neg (by omega)]
    cases l with | nil => rfl | cons b1 l => exact Sgo 4 1 160 191 _ 0 b1 l ustep_4 (by decide) (by decide)
  · by_cases h5 : (b0.toNat : Int) = 237
    · rw [Sbeg 5 _ _ (by rw [h5]; rfl) (by decide) (by decide), e, low3, high3, if_neg h4, if_pos h5]
      cases l with | nil => rfl | cons b1 l => exact Sgo 5 1 128 159 _ 0 b1 l ustep_5 (by decide) (by decide)
    · rw [Sbeg 2 _ _ (f_2 _ (by omega)) (by decide) (by decide), e, low3, high3, if_neg h4, if_neg h5]
      cases l with | nil => rfl | cons b1 l => exact Sgo 2 1 128 191 _ 0 b1 l ustep_2 (by decide) (by decide)
theorem U_3 (b0 b1 b2 : UInt8) (l : List UInt8) (h : 224 ≤ (b0.toNat : Int) ∧ (b0.toNat : Int) < 240) :
    uscal (b0 :: b1 :: b2 :: l) = if (low3 b0.toNat ≤ (b1.toNat : Int) ∧ (b1.toNat : Int) ≤ high3 b0.toNat) ∧ 128 ≤ (b2.toNat : Int) ∧ (b2.toNat : Int) ≤ 191 then (((b0.toNat - 224 : Int) * 64 + (b1.toNat : Int) % 64) * 64 + (b2.toNat : Int) % 64, 3) else (0, 0) := by
  rw [U_3' _ _ h]
  simp only
  rw [S1 _ 1]
  by_cases h1 : low3 b0.toNat ≤ (b1.toNat : Int) ∧ (b1.toNat : Int) ≤ high3 b0.toNat
  · rw [if_pos h1]; simp only [h1, true_and, and_self]
  · rw [if_neg h1, if_neg (fun h => h1 h.1)]
theorem U_3s (b0 : UInt8) (l : List UInt8) (h : 224 ≤ (b0.toNat : Int) ∧ (b0.toNat : Int) < 240) (hl : l.length < 2) : uscal (b0 :: l) = (0, 0) := by
  rw [U_3' _ _ h]
  match l, hl with
  | [], _ => rfl
  | [b1], _ => simp [uscalS_nil]
theorem U_4' (b0 : UInt8) (l : List UInt8) (h : 240 ≤ (b0.toNat : Int) ∧ (b0.toNat : Int) < 245) :
    uscal (b0 :: l) = match l with | [] => (0, 0) | b1 :: l => if low4 b0.toNat ≤ (b1.toNat : Int) ∧ (b1.toNat : Int) ≤ high4 b0.toNat then uscalS 2 ((b0.toNat - 240 : Int) * 64 + (b1.toNat : Int) % 64) 2 l else (0, 0) := by
  have e : ufirstC (b0.toNat : Int) = b0.toNat - 240 := by unfold ufirstC; rw [if_neg (by omega), if_neg (by omega), if_neg (by omega)]; omega
  by_cases h4 : (b0.toNat : Int) = 240
  · rw [Sbeg 6 _ _ (by rw [h4]; rfl) (by decide) (by decide), e, low4, high4, if_pos h4, if_neg (by omega)]
    cases l with | nil => rfl | cons b1 l => exact Sgo 6 2 144 191 _ 0 b1 l ustep_6 (by decide) (by decide)
  · by_cases h5 : (b0.toNat : Int) = 244
    · rw [Sbeg 7 _ _ (by rw [h5]; rfl) (by decide) (by decide), e, low4, high4, if_neg h4, if_pos h5]
      cases l with | nil => rfl | cons b1 l => exact Sgo 7 2 128 143 _ 0 b1 l ustep_7 (by decide) (by decide)
    · rw [Sbeg 3 _ _ (f_3 _ (by omega)) (by decide) (by decide), e, low4, high4, if_neg h4, if_neg h5]
      cases l with | nil => rfl | cons b1 l => exact Sgo 3 2 128 191 _ 0 b1 l ustep_3 (by decide) (by decide)
theorem U_4 (b0 b1 b2 b3 : UInt8) (l : List UInt8) (h : 240 ≤ (b0.toNat : Int) ∧ (b0.toNat : Int) < 245) :
    uscal (b0 :: b1 :: b2 :: b3 :: l) = if (low4 b0.toNat ≤ (b1.toNat : Int) ∧ (b1.toNat : Int) ≤ high4 b0.toNat) ∧ (128 ≤ (b2.toNat : Int) ∧ (b2.toNat : Int) ≤ 191) ∧ 128 ≤ (b3.toNat : Int) ∧ (b3.toNat : Int) ≤ 191 then ((((b0.toNat - 240 : Int) * 64 + (b1.toNat : Int) % 64) * 64 + (b2.toNat : Int) % 64) * 64 + (b3.toNat : Int) % 64, 4) else (0, 0) := by
  rw [U_4' _ _ h]
  simp only
  rw [Sgo 2 1 128 191 _ 1 b2 _ ustep_2 (by decide) (by decide), S1 _ 2]
  by_cases h1 : low4 b0.toNat ≤ (b1.toNat : Int) ∧ (b1.toNat : Int) ≤ high4 b0.toNat
  · rw [if_pos h1]
    by_cases h2 : 128 ≤ (b2.toNat : Int) ∧ (b2.toNat : Int) ≤ 191
    · rw [if_pos h2]; simp only [h1, h2, true_and, and_self]
    · rw [if_neg h2, if_neg (fun h => h2 h.2.1)]
  · rw [if_neg h1, if_neg (fun h => h1 h.1)]
theorem U_4s (b0 : UInt8) (l : List UInt8) (h : 240 ≤ (b0.toNat : Int) ∧ (b0.toNat : Int) < 245) (hl : l.length < 3) : uscal (b0 :: l) = (0, 0) := by
  rw [U_4' _ _ h]
  match l, hl with
  | [], _ => rfl
  | [b1], _ => simp [uscalS_nil]
  | [b1, b2], _ => simp only; rw [Sgo 2 1 128 191 _ 1 b2 _ ustep_2 (by decide) (by decide)]; simp [uscalS_nil]

/-- the numbers that some bytes are -/
def nums (l : List UInt8) : List Int := l.map fun b => (b.toNat : Int)
theorem ofNat_nums (l : List UInt8) : (nums l).map (fun n => UInt8.ofNat n.toNat) = l := by
  induction l with
  | nil => rfl
  | cons b l ih => simp only [nums, List.map_cons, Int.toNat_natCast, UInt8.ofNat_toNat] at ih ⊢; rw [ih]
theorem nums_ofNat (ns : List Int) (h : ∀ n ∈ ns, 0 ≤ n ∧ n ≤ 255) : nums (ns.map (fun n => UInt8.ofNat n.toNat)) = ns := by
  induction ns with
  | nil => rfl
  | cons n ns ih =>
    have h1 := h n (by simp)
    have e : ((UInt8.ofNat n.toNat).toNat : Int) = n := by
      rw [UInt8.toNat_ofNat', Nat.mod_eq_of_lt (by omega)]; omega
    simp only [nums, List.map_cons] at ih ⊢
    rw [ih (fun m hm => h m (by simp [hm])), e]
theorem putN_bytes (c : Int) : ∀ n ∈ putN c, 0 ≤ n ∧ n ≤ 255 := by
  intro n hn
  unfold putN at hn
  (repeat' split at hn) <;> simp at hn <;> omega
/-- a scalar's bytes -/
def putL (c : Int) : List UInt8 := (putN c).map fun n => UInt8.ofNat n.toNat
theorem putL_eq_iff (c : Int) (l : List UInt8) : putL c = l ↔ putN c = nums l := by
  constructor
  · intro h; rw [← h, putL, nums_ofNat _ (putN_bytes c)]
  · intro h; rw [putL, h, ofNat_nums]
theorem H_2 (b0 b1 : UInt8) (h : 192 ≤ (b0.toNat : Int) ∧ (b0.toNat : Int) < 224) :
    putN ((b0.toNat - 192 : Int) * 64 + (b1.toNat : Int) % 64) = nums [b0, b1] ↔ 194 ≤ (b0.toNat : Int) ∧ 128 ≤ (b1.toNat : Int) ∧ (b1.toNat : Int) ≤ 191 := by
  have := b1.toNat_lt
  unfold putN nums
  (repeat' split) <;> simp <;> omega
theorem H_3 (b0 b1 b2 : UInt8) (h : 224 ≤ (b0.toNat : Int) ∧ (b0.toNat : Int) < 240) :
    putN (((b0.toNat - 224 : Int) * 64 + (b1.toNat : Int) % 64) * 64 + (b2.toNat : Int) % 64) = nums [b0, b1, b2] ↔ (low3 b0.toNat ≤ (b1.toNat : Int) ∧ (b1.toNat : Int) ≤ high3 b0.toNat) ∧ 128 ≤ (b2.toNat : Int) ∧ (b2.toNat : Int) ≤ 191 := by
  have := b1.toNat_lt
  have := b2.toNat_lt
  unfold putN nums low3 high3
  (repeat' split) <;> simp <;> omega
theorem H_4 (b0 b1 b2 b3 : UInt8) (h : 240 ≤ (b0.toNat : Int) ∧ (b0.toNat : Int) < 248) :
    putN ((((b0.toNat - 240 : Int) * 64 + (b1.toNat : Int) % 64) * 64 + (b2.toNat : Int) % 64) * 64 + (b3.toNat : Int) % 64) = nums [b0, b1, b2, b3] ↔ (b0.toNat : Int) < 245 ∧ (low4 b0.toNat ≤ (b1.toNat : Int) ∧ (b1.toNat : Int) ≤ high4 b0.toNat) ∧ (128 ≤ (b2.toNat : Int) ∧ (b2.toNat : Int) ≤ 191) ∧ 128 ≤ (b3.toNat : Int) ∧ (b3.toNat : Int) ≤ 191 := by
  have := b1.toNat_lt
  have := b2.toNat_lt
  have := b3.toNat_lt
  unfold putN nums low4 high4
  (repeat' split) <;> simp <;> omega
end Go.Proofs.Lw
