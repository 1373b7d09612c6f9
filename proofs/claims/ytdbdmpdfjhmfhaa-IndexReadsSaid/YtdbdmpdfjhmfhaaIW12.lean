/- The walk of the reference's number. -/
import Derived.Test.YtdbdmpdfjhmfhaaIW10
import Derived.Test.YtdbdmpdfjhmfhaaIPlain7
namespace Go.Proofs.Ytdbdmpdfjhmfhaa
open Go.RowKit Go.Proofs.Lx
theorem ret_i64 {a b : Int} (h : a = b) : Ending.returned (.int .i64 a) = .returned (.int .i64 b) := by rw [h]

set_option maxRecDepth 100000 in
set_option maxHeartbeats 4000000 in
theorem rnum_any (s : ByteArray) (p m : Nat) (w : World) (hp : p ≤ 1000000) (hm : m ≤ 10000000) (hs : s.size ≤ 1000000) (R : Int) (hR : Hid (numR m p s = R)) :
    Calls Try.prog 27 #[.string s, .int .i64 (p : Int), .int .i64 (m : Int)] w fun e w' => e = .returned (.int .i64 R) ∧ w' = w := by
  by_cases h8 : p + 8 ≤ s.size
  · go_enter Try.func27, Try.ntmps27
    go_wp2_with fail
    go_loop [7, 8] (fun v7 v8 => ∃ q : Nat, q ≤ 8 ∧ v8 = .int .i64 ((q : Int) - 1) ∧ ∃ n : Nat, n ≤ m ∧ v7 = .int .i64 n ∧ Hid (n = wideTo ((win8 s p).drop q))) (fun _ v8 => (intOf v8 + 1).toNat)
    case atStart => exact ⟨8, by omega, rfl, 0, by omega, rfl, Lib.hid (by rw [List.drop_of_length_le (by rw [win8_len s p h8]; omega)]; rfl)⟩
    case round =>
      obtain ⟨q, hq, rfl, n, hn, rfl, HN⟩ := hrel
      match q, hq with
      | 0, _ =>
        have hv : Hid ((n : Int) = R) := Lib.hid (by
          have := HN.out
          simp only [List.drop_zero] at this
          rw [← hR.out, numR_yes h8 (by omega), this])
        clear HN
        go_wp2_with fail
        go_ret
        exact ⟨ret_i64 hv.out, rfl⟩
      | q + 1, hq =>
        have hq1 : ((q + 1 : Nat) : Int) - 1 = (q : Int) := by omega
        rw [hq1]
        have hat := Lib.hid (win8_at s p q h8 (by omega))
        have hb := (s[p + q]'(by omega)).toNat_lt
        obtain ⟨b, hbe⟩ : ∃ b : Nat, b = (s[p + q]'(by omega)).toNat := ⟨_, rfl⟩
        have hN2 : Hid (b + 256 * n = wideTo ((win8 s p).drop q)) := Lib.hid (by rw [hat.out, ← HN.out, hbe])
        by_cases hgt : m < b + 256 * n
        · have hv : Hid (-1 = R) := Lib.hid (by rw [← hR.out, numR_big' q (by rw [← hN2.out]; exact hgt)])
          clear HN hN2 hat
          go_wp2_with fail
          go_ret
          exact ⟨ret_i64 hv.out, rfl⟩
        · clear HN hat
          go_wp2_with fail
          go_round
          case rel => go_light; exact ⟨q, by omega, rfl, b + 256 * n, by omega, by go_num, hN2⟩
          case measure => go_light; simp [intOf]
  · have hv : Hid (-1 = R) := Lib.hid (by rw [← hR.out, numR_short h8])
    go_enter Try.func27, Try.ntmps27
    go_wp2_with fail
    go_ret
    exact ⟨ret_i64 hv.out, rfl⟩
end Go.Proofs.Ytdbdmpdfjhmfhaa
