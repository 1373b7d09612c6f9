/- Plain laws of the UTF layer: the scalar with which bytes begin. -/
import Derived.Test.YtlckidgeooiboaaUPlain2
namespace Go.Proofs.Lw
/-- what the first byte gives of the scalar -/
def ufirstC (b : Int) : Int := if b < 128 then b else if b < 224 then b % 32 else if b < 240 then b % 16 else b % 8
/-- Scalar's loop, from a state, a number and a place on -/
def uscalS (st c : Int) (i : Nat) : List UInt8 → Int × Nat
  | [] => (0, 0)
  | b :: l =>
    if ustep st b.toNat = 8 then (0, 0)
    else
      let c' : Int := if 0 < i then c * 64 + (b.toNat : Int) % 64 else ufirstC b.toNat
      if ustep st b.toNat = 0 then (c', i + 1) else uscalS (ustep st b.toNat) c' (i + 1) l
def uscal (l : List UInt8) : Int × Nat := uscalS 0 0 0 l
/-- what holds at the head of Scalar's loop -/
def UInv (k : Nat) (st c : Int) : Prop :=
  (k = 0 ∧ st = 0 ∧ c = 0) ∨ (k = 1 ∧ 1 ≤ st ∧ st ≤ 7 ∧ 0 ≤ c ∧ c < 64) ∨ (k = 2 ∧ (st = 1 ∨ st = 2) ∧ 0 ≤ c ∧ c < 4096) ∨ (k = 3 ∧ st = 1 ∧ 0 ≤ c ∧ c < 262144)
theorem UInv.bd {k : Nat} {st c : Int} (h : UInv k st c) : 0 ≤ c ∧ c < 262144 ∧ k ≤ 3 := by unfold UInv at h; omega
theorem UInv.pos {k : Nat} {st c : Int} (h : UInv k st c) (hk : k ≠ 0) : 1 ≤ st ∧ st ≤ 7 := by unfold UInv at h; omega
theorem UInv.zero {k : Nat} {st c : Int} (h : UInv k st c) (hk : k = 0) : st = 0 ∧ c = 0 := by unfold UInv at h; omega
theorem ufirst_range (b : Int) : 0 ≤ ufirst b ∧ ufirst b ≤ 8 := by unfold ufirst; (repeat' split) <;> omega
theorem ufirstC_range (b : Int) (h1 : ufirst b ≠ 0) : 0 ≤ ufirstC b ∧ ufirstC b < 64 := by
  unfold ufirstC
  by_cases h2 : b < 128
  · exact absurd (by unfold ufirst; rw [if_pos h2]) h1
  · rw [if_neg h2]; (repeat' split) <;> omega
theorem UInv.step0 (b : Int) (h8 : ustep 0 b ≠ 8) (h0 : ustep 0 b ≠ 0) : UInv 1 (ustep 0 b) (ufirstC b) := by
  have e : ustep 0 b = ufirst b := by simp [ustep]
  rw [e] at h8 h0 ⊢
  have := ufirst_range b
  have := ufirstC_range b h0
  unfold UInv; omega
theorem UInv.step {k : Nat} {st c : Int} (h : UInv k st c) (hk : k ≠ 0) (b : Int) (h8 : ustep st b ≠ 8) (h0 : ustep st b ≠ 0) : UInv (k + 1) (ustep st b) (c * 64 + b % 64) := by
  have e : ustep st b = unext st := by
    have := h.pos hk
    unfold ustep at *; rw [if_neg (by omega)] at *; split
    · rename_i hh; rw [if_pos hh] at h8; exact absurd rfl h8
    · rfl
  rw [e] at h8 h0 ⊢
  clear e
  unfold UInv at *
  rcases h with h | ⟨h1, h2, h3, h4, h5⟩ | ⟨h1, h2, h3, h4⟩ | ⟨h1, h2, h3, h4⟩
  · omega
  · have hs : st = 1 ∨ st = 2 ∨ st = 3 ∨ st = 4 ∨ st = 5 ∨ st = 6 ∨ st = 7 := by omega
    rcases hs with rfl | rfl | rfl | rfl | rfl | rfl | rfl <;> simp [unext] at h8 h0 ⊢ <;> omega
  · rcases h2 with rfl | rfl <;> simp [unext] at h8 h0 ⊢ <;> omega
  · subst h2; simp [unext] at h0
theorem ustep0_hi (b : Int) (h8 : ustep 0 b ≠ 8) (hlo : ¬ b < 128) : 194 ≤ b ∧ ustep 0 b ≠ 0 := by
  have e : ustep 0 b = ufirst b := by simp [ustep]
  rw [e] at h8 ⊢
  unfold ufirst at h8 ⊢
  rw [if_neg hlo] at h8 ⊢
  constructor
  · by_cases hh : 194 ≤ b
    · exact hh
    · exfalso; apply h8
      repeat rw [if_neg (by omega)]
  · (repeat' split) <;> omega
theorem ustep0_lo (b : Int) (hlo : b < 128) : ustep 0 b = 0 := by
  have e : ustep 0 b = ufirst b := by simp [ustep]
  rw [e, ufirst, if_pos hlo]
theorem uscalS_nil (st c : Int) (i : Nat) : uscalS st c i [] = (0, 0) := rfl
theorem uscalS_cons (st c : Int) (i : Nat) (b : UInt8) (l : List UInt8) : uscalS st c i (b :: l) =
    if ustep st b.toNat = 8 then (0, 0)
    else if ustep st b.toNat = 0 then (if 0 < i then c * 64 + (b.toNat : Int) % 64 else ufirstC b.toNat, i + 1)
    else uscalS (ustep st b.toNat) (if 0 < i then c * 64 + (b.toNat : Int) % 64 else ufirstC b.toNat) (i + 1) l := rfl
end Go.Proofs.Lw
