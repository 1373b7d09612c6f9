/- The walk of put. -/
import Derived.Test.YtdbdmpdfjhmfhaaIW4
namespace Go.Proofs.Ytdbdmpdfjhmfhaa
open Go.RowKit Go.Proofs.Lx

theorem Keeps.block {B b : Nat} {w w' : World} (h : Keeps B b w w') {g : Nat} {o : Obj} (hg : w.heap[g]? = some o) (hgb : g ≠ b) (ho : ∀ c fz, o ≠ .cells c 5 fz) : w'.heap[g]? = some o :=
  h.2 g o hg (by simpa using hgb) ho
theorem cell_of_block {w : World} {g i t : Nat} {C : Array Value} {fz : Nat × Nat} (h : w.heap[g]? = some (.cells C t fz)) : w.cell? ⟨g, i, none⟩ = C[i]? := by
  simp [World.cell?, h]

set_option maxRecDepth 100000 in
set_option maxHeartbeats 1000000 in
theorem put_any (B b : Nat) (l : List UInt8) (g len cap : Nat) (ns : List Nat) (w : World) (hS : Hid (SB B b l w)) (hl : l.length ≤ 10000000) (hlen : Hid (ns.length = len)) (hn : len ≤ 1000) (hBw : B ≤ w.heap.size)
    (hgb : g ≠ b) (hg : Hid (w.heap[g]? = some (.cells (ns.map fun n => Value.int .u64 (n : Nat)).toArray 35 (0, 0)))) (h64 : Hid (∀ n ∈ ns, n < 18446744073709551616)) :
    Calls Try.prog 20 #[.pointer (some ⟨b, 0, none⟩), .slice (some ⟨g, 0, none⟩) len cap] w fun e w' => e = .returned (.tuple #[]) ∧ SB B b (l ++ eights ns) w' ∧ Keeps B b w w' := by
  go_enter Try.func20, Try.ntmps20
  go_wp2_with fail
  go_loopg [8] len (fun q v wr => ∃ i : Nat, i ≤ len ∧ q = len - i ∧ v = .int .i64 i ∧ Hid (SB B b (l ++ eights (ns.take i)) wr) ∧ Hid (Keeps B b w wr))
  case atStart => exact ⟨0, Nat.zero_le _, rfl, rfl, Lib.hid (by simpa [eights] using hS.out), Lib.hid (Keeps.refl _ _ _)⟩
  case round =>
    obtain ⟨i, hi, rfl, rfl, hSB, hK⟩ := hrel
    by_cases hlt : i < len
    · have hdi : decide ((i : Int) < (len : Int)) = true := by rw [decide_eq_true_eq]; omega
      have hil : i < ns.length := by have := hlen.out; omega
      obtain ⟨n, hn0⟩ : ∃ n, n = ns[i] := ⟨_, rfl⟩
      have hn64 : Hid (n < 18446744073709551616) := Lib.hid (h64.out n (by rw [hn0]; exact List.getElem_mem hil))
      have hcell : wr.cell? ⟨g, i, none⟩ = some (.int .u64 (n : Nat)) := by
        rw [cell_of_block (hK.out.block hg.out hgb (by simp))]
        simp [hn0, hil]
      have Hn : Hid (eights (ns.take (i + 1)) = eights (ns.take i) ++ eight n) := Lib.hid (by rw [eights_snoc ns i hil, hn0])
      have Hlen : Hid ((eights (ns.take i)).length ≤ 8000) := Lib.hid (by rw [eights_len]; simp; omega)
      clear hn0 hil
      go_wp2_with fail
      go_loopg [12, 5] 8 (fun q v m wx => ∃ j : Nat, j ≤ 8 ∧ q = 8 - j ∧ v = .int .i64 j ∧ m = .int .u64 (n / 256 ^ j : Nat) ∧ Hid (SB B b (l ++ eights (ns.take i) ++ eightTo n j) wx) ∧ Hid (Keeps B b w wx))
      case atStart => exact ⟨0, by omega, rfl, rfl, by simp, Lib.hid (by simpa [eightTo] using hSB.out), hK⟩
      case round =>
        clear hSB hK
        obtain ⟨j, hj, rfl, rfl, rfl, hSB, hK⟩ := hrel
        by_cases hltj : j < 8
        · obtain ⟨m, hm⟩ : ∃ m, m = n / 256 ^ j := ⟨_, rfl⟩
          rw [← hm]
          have Hm := Lib.hid hm
          clear hm
          have hdj : decide ((j : Int) < 8) = true := by rw [decide_eq_true_eq]; omega
          have hlen8 : (l ++ eights (ns.take i) ++ eightTo n j).length ≤ 100000000 := by
            have := Hlen.out
            rw [List.length_append, List.length_append, eightTo_len]; omega
          have hBr : B ≤ wr.heap.size := Nat.le_trans hBw hK.out.1.size
          go_wp2_with fail
          refine (sb_writeByte B b _ ((m : Int) % 256) _ hSB.out hlen8 hBr (by omega) (by omega)).mono ?_; rintro e w2 ⟨rfl, h1, h2⟩
          have H1 := Lib.hid h1
          have H2 := Lib.hid (hK.out.trans h2)
          clear h1 h2
          go_wp2_with fail
          go_roundg (8 - (j + 1))
          case measure => go_light; omega
          case rel =>
            go_light
            refine ⟨j + 1, by omega, rfl, by go_num, ?_, ?_, H2⟩
            · have : n / 256 ^ (j + 1) = m / 256 := by rw [Hm.out, Nat.pow_succ, Nat.div_div_eq_div_mul]
              rw [this]; rfl
            · have e : UInt8.ofNat ((m : Int) % 256).toNat = UInt8.ofNat (n / 256 ^ j % 256) := by
                rw [← Hm.out]; congr 1
              have := H1.out
              rw [e] at this
              exact Lib.hid (by rw [eightTo, ← List.append_assoc]; exact this)
        · have hdj : decide ((j : Int) < 8) = false := by rw [decide_eq_false_iff_not]; omega
          have H1 : Hid (SB B b (l ++ eights (ns.take (i + 1))) wr) := Lib.hid (by
            have e : j = 8 := by omega
            have := hSB.out
            rw [e] at this
            rw [Hn.out, ← List.append_assoc]; exact this)
          go_wp2_with fail
          go_roundg (len - (i + 1))
          case measure => go_light; omega
          case rel => go_light; exact ⟨i + 1, by omega, rfl, by go_num, H1, hK⟩
    · have H1 : Hid (SB B b (l ++ eights ns) wr) := Lib.hid (by
        have := hSB.out
        rw [List.take_of_length_le (by have := hlen.out; omega)] at this; exact this)
      go_wp2_with fail
      go_end0
      exact ⟨rfl, H1.out, hK.out⟩
end Go.Proofs.Ytdbdmpdfjhmfhaa
