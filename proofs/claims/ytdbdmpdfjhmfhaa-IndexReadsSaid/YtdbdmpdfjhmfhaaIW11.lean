/- The walk of the reference's Eight. -/
import Derived.Test.YtdbdmpdfjhmfhaaIW10
import Derived.Test.YtdbdmpdfjhmfhaaIPlain6
import Derived.Deep.DeepAppendWide
import Derived.Laws.IdiomStrings
namespace Go.Proofs.Ytdbdmpdfjhmfhaa
open Go.RowKit Go.Proofs.Lx

theorem info5 : (Try.prog.info? 5).map (fun i => (i.zero, i.size, i.bytes)) = some (some (.int .u8 0), 1, 1) := by kernel_rfl
def u8s (l : List UInt8) : List Value := l.map fun b => Value.int .u8 (b.toNat : Nat)
theorem bytes_of_owns {w : World} {B : Nat} {v : Value} {l : List UInt8} {n : Nat} (hn : l.length = n + 1) (h : w.ownsRow B 5 1 v (n + 1) (u8s l)) :
    ∃ g cap, v = .slice (some ⟨g, 0, none⟩) (n + 1) cap ∧ (convert 43 9 (.slice (some ⟨g, 0, none⟩) (n + 1) cap)).run Try.prog w = .ok (.string ⟨l.toArray⟩) w := by
  obtain ⟨hl, h | ⟨g, cap, cur, hv, hB, hg, hc, hm, hsz, ht⟩⟩ := h
  · omega
  · refine ⟨g, cap, hv, ?_⟩
    have := run_convert_bytes_back (P := Try.prog) w 43 9 5 ⟨g, 0, none⟩ cap l Try.underlying43 Try.underlying5 Try.underlying9 (fun j hj => by
      rw [Addr.add_lit, Nat.zero_add]
      have e1 : cur[j]? = some (.int .u8 ((l[j]).toNat : Nat)) := by
        have := congrArg (fun x => x[j]?) ht
        simp only [Nat.mul_one, List.getElem?_take, u8s, List.getElem?_map, Array.getElem?_toList] at this
        rw [if_pos (by omega)] at this
        rw [this, List.getElem?_eq_getElem hj]; rfl
      simp [World.cell?, hg, e1])
    rw [hn] at this
    exact this

theorem own_alloc {w : World} {B n : Nat} {v : Value} {xs : List Value} (h : w.ownsRow B 5 1 v n xs) (o : Obj) : (w.alloc o).ownsRow B 5 1 v n xs := h.alloc o
theorem cell_one_new (w : World) (v : Value) (t : TypeId) : ∀ j u, [v][j]? = some u → (w.alloc (.cells #[v] t)).cell? ((⟨w.heap.size, 0, none⟩ : Addr).add j) = some u := by
  intro j u hj
  rw [Addr.add_lit, World.cell?_alloc_at _ _ _ _ rfl, Nat.zero_add]
  simpa using hj
theorem pow8 (k : Nat) : (2 : Nat) ^ (8 * k) = 256 ^ k := by rw [Nat.pow_mul]
theorem eight_val (n k : Nat) : (n : Int) / 2 ^ (8 * k) % 256 = ((UInt8.ofNat (n / 256 ^ k % 256)).toNat : Nat) := by
  have e : (UInt8.ofNat (n / 256 ^ k % 256)).toNat = n / 256 ^ k % 256 := by simp only [UInt8.toNat_ofNat']; omega
  rw [e, ← pow8, Int.natCast_emod, Int.natCast_ediv, Int.natCast_pow]; rfl
set_option maxRecDepth 100000 in
set_option maxHeartbeats 4000000 in
theorem eight_any (n : Nat) (w : World) :
    Calls Try.prog 11 #[.int .u64 (n : Nat)] w fun e w' => e = .returned (.string ⟨(eight n).toArray⟩) ∧ Below w.heap.size w w' := by
  obtain ⟨i0, hi, hz⟩ : ∃ i, Try.prog.info? 5 = some i ∧ (i.zero, i.size, i.bytes) = (some (.int .u8 0), 1, 1) := by
    have := info5
    cases h : Try.prog.info? 5 with
    | none => rw [h] at this; simp at this
    | some i => exact ⟨i, rfl, by rw [h] at this; simpa using this⟩
  obtain ⟨hz0, hz1, hz2⟩ : i0.zero = some (.int .u8 0) ∧ i0.size = 1 ∧ i0.bytes = 1 := by simpa using hz
  clear hz
  go_enter Try.func11, Try.ntmps11
  go_wp2_with fail
  go_loopg [3, 4] 8 (fun g v2 v3 wr => ∃ k : Nat, k ≤ 8 ∧ g = 8 - k ∧ v3 = .int .i64 k ∧ Hid (wr.ownsRow w.heap.size 5 1 v2 k (u8s (eightTo n k))) ∧ Hid (Below w.heap.size w wr))
  case atStart => exact ⟨0, by omega, rfl, rfl, Lib.hid (World.ownsRow_nil _ _ _ _), Lib.hid (Below.refl _ _)⟩
  case round =>
    obtain ⟨k, hk, rfl, rfl, HO, HB⟩ := hrel
    by_cases hlt : k < 8
    · have hdk : decide ((k : Int) < 8) = true := by rw [decide_eq_true_eq]; omega
      have hV := Lib.hid (eight_val n k)
      go_wp2_with (at_builtin; refine wpList_append_own_wide _ rfl (.tmp 9) (.tmp 15) 43 rfl w.heap.size 5 i0 (.int .u8 0) 1 1 Try.underlying43 hi hz0 hz1 hz2 rfl (by decide) _ _ _ rfl (own_alloc HO.out _) ⟨wr.heap.size, 0, none⟩ 1 1 [.int .u8 ((n : Int) / 2 ^ (8 * k) % 256)] rfl rfl (cell_one_new _ _ _) (by intro u hu; simp at hu; subst hu; rfl) (by unfold maxLen; omega) (by omega) (by have := HB.out.size; simp; omega) ?_; rintro v6 w6 ho6 hg6 _)
      have HO6 : Hid (w6.ownsRow w.heap.size 5 1 v6 (k + 1) (u8s (eightTo n (k + 1)))) := Lib.hid (by rw [hV.out] at ho6; simpa [eightTo, u8s] using ho6)
      have HB6 : Hid (Below w.heap.size w w6) := Lib.hid ((HB.out.alloc HB.out.size _).grown hg6 (by have := HB.out.size; simp; omega) (fun j hj => (HO.out.lt j hj).1))
      clear ho6 hg6 HO HB hV
      go_wp2_with fail
      go_roundg (8 - (k + 1))
      case measure => go_light; omega
      case rel => go_light; exact ⟨k + 1, by omega, rfl, by go_num, HO6, HB6⟩
    · obtain rfl : k = 8 := by omega
      obtain ⟨g, cap, rfl, hcv⟩ := bytes_of_owns (n := 7) (eight_len n) HO.out
      go_wp2_with fail
      go_ret
      exact ⟨rfl, HB.out⟩
end Go.Proofs.Ytdbdmpdfjhmfhaa
