/- The walk of the reference's part. -/
import Derived.Test.YtghfinkckdbamaaUW7
import Derived.Test.YtghfinkckdbamaaBRow
import Derived.Test.YtghfinkckdbamaaUPlain6
import Derived.Deep.LoopGhost
import Derived.Deep.Light
namespace Go.Proofs.Ytghfinkckdbamaa
open Go.RowKit Go.Proofs.Lw

/-- what stays through part's loops -/
def PW (w wr : World) : Prop := Below w.heap.size w wr ∧ w.heap.size + 2 ≤ wr.heap.size ∧
  (∀ j, j < 3 → wr.cell? ⟨w.heap.size, j, none⟩ = some (.int .u8 ((lowsL.getD j 0).toNat : Nat))) ∧
  (∀ j, j < 3 → wr.cell? ⟨w.heap.size + 1, j, none⟩ = some (.int .u8 ((highsL.getD j 0).toNat : Nat)))
theorem PW.step {w wr w' : World} (h : PW w wr) (hb : Below (w.heap.size + 2) wr w') : PW w w' := by
  obtain ⟨h1, h2, h3, h4⟩ := h
  refine ⟨h1.trans (hb.mono (by omega)), by have := hb.size; omega, fun j hj => ?_, fun j hj => ?_⟩
  · rw [hb.cell (p := ⟨w.heap.size, j, none⟩) (by simp)]; exact h3 j hj
  · rw [hb.cell (p := ⟨w.heap.size + 1, j, none⟩) (by simp)]; exact h4 j hj
theorem PW.next {w wr w' : World} (h : PW w wr) (hb : Below wr.heap.size wr w') : PW w w' := h.step (hb.mono h.2.1)
theorem three {p : Nat → Prop} (h0 : p 0) (h1 : p 1) (h2 : p 2) : ∀ j, j < 3 → p j := fun j hj => by
  have : j = 0 ∨ j = 1 ∨ j = 2 := by omega
  rcases this with rfl | rfl | rfl <;> assumption
theorem PW.start (w : World) : PW w ((w.alloc (.cells #[.int .u8 128, .int .u8 160, .int .u8 144] 5)).alloc (.cells #[.int .u8 191, .int .u8 159, .int .u8 143] 5)) := by
  refine ⟨((Below.refl _ _).alloc (Nat.le_refl _) _).alloc (by simp) _, by simp, three ?_ ?_ ?_, three ?_ ?_ ?_⟩
  all_goals first
    | (rw [World.cell?_alloc_past _ _ _ (by simp), World.cell?_alloc_at _ _ _ _ rfl]; rfl)
    | (rw [World.cell?_alloc_at _ _ _ _ (by simp)]; rfl)
theorem BRow.form {w : World} {B n : Nat} {v : Value} {l : List UInt8} (h : BRow w B v l) (hn : l.length = n) : ∃ g cap, v = .slice (some ⟨g, 0, none⟩) n cap ∧ BRow w B (.slice (some ⟨g, 0, none⟩) n cap) l := by
  obtain ⟨g, cap, hv, h'⟩ := h
  subst hn
  exact ⟨g, cap, hv, g, cap, rfl, h'⟩
theorem BRow.conv {w : World} {B n g cap : Nat} {l : List UInt8} (h : BRow w B (.slice (some ⟨g, 0, none⟩) n cap) l) (hn : l.length = n) :
    (convert 35 9 (.slice (some ⟨g, 0, none⟩) n cap)).run Try.prog w = .ok (.string ⟨l.toArray⟩) w := by
  obtain ⟨g', cap', hv, _, _, _, h4, _⟩ := h
  injection hv with h1 h2 h3
  injection h1 with h1
  injection h1 with h1
  subst h1; subst hn
  refine run_convert_bytes_back w 35 9 5 ⟨g, 0, none⟩ cap l Try.underlying35 Try.underlying5 Try.underlying9 (fun j hj => ?_)
  rw [Addr.add_lit]
  simp only [Nat.zero_add]
  rw [h4 j hj]
  simp [List.getD, List.getElem?_eq_getElem hj]
theorem BRow.mono {w : World} {B B' : Nat} {v : Value} {l : List UInt8} (h : BRow w B v l) (hB : B' ≤ B) : BRow w B' v l := by
  obtain ⟨g, cap, hv, h1, h2⟩ := h
  exact ⟨g, cap, hv, Nat.le_trans hB h1, h2⟩
theorem cand_len (l : List UInt8) (i k n : Nat) (h0 : 0 < l.length) (h3 : l.length ≤ 3) (hn : n ≤ 4) : ((cand4 l i k).take n).length = n := by
  have : 4 ≤ (cand4 l i k).length := by unfold cand4; split <;> simp <;> omega
  simp; omega
theorem cand_start (l : List UInt8) (i k : Nat) : (cand4 l i k).take l.length = l := by
  unfold cand4; split <;> simp
theorem cand_snoc1 (l : List UInt8) (i k : Nat) (h : l.length = 1) : (cand4 l i k).take 2 = (cand4 l i k).take 1 ++ [extB i k] := by
  match l, h with
  | [b], _ => simp [cand4]
theorem cand_snoc (l : List UInt8) (i k n : Nat) (h0 : 0 < l.length) (hn : l.length ≤ n) (hn4 : n < 4) (hn1 : n ≠ 1) : (cand4 l i k).take (n + 1) = (cand4 l i k).take n ++ [128] := by
  match l, h0 with
  | [b], _ =>
    have : n = 2 ∨ n = 3 := by simp at hn; omega
    rcases this with rfl | rfl <;> simp [cand4]
  | [b, c], _ =>
    have : n = 2 ∨ n = 3 := by simp at hn; omega
    rcases this with rfl | rfl <;> simp [cand4]
  | [b, c, d], _ =>
    have : n = 3 := by simp at hn; omega
    subst this; simp [cand4]
  | a :: b :: c :: d :: t, _ => simp at hn; omega
theorem rscalar_to (L : List UInt8) (w : World) :
    Calls Try.prog 17 #[.string ⟨L.toArray⟩] w fun e w' => e = .returned (.tuple #[.int .i64 (uscal L).1, .int .i64 ((uscal L).2 : Nat)]) ∧ Below w.heap.size w w' := by
  have := rscalar_any ⟨L.toArray⟩ w
  exact this
theorem below2d (w : World) (a b : Obj) : Below w.heap.size w ((w.alloc a).alloc b).drew := (((Below.refl _ _).alloc (Nat.le_refl _) _).alloc (by simp) _).drew
theorem cell2d (w : World) (A : Array Value) (v : Value) : ((w.alloc (.cells A 5)).alloc (.cells #[v] 5)).drew.cell? ⟨w.heap.size + 1, 0, none⟩ = some v := by
  show ((w.alloc (.cells A 5)).alloc (.cells #[v] 5)).cell? ⟨w.heap.size + 1, 0, none⟩ = some v
  rw [World.cell?_alloc_at _ _ _ _ (by simp)]; rfl
theorem info5 : (Try.prog.info? 5).map (fun i => (i.zero, i.size, i.bytes)) = some (some (.int .u8 0), 1, 1) := by kernel_rfl

set_option maxRecDepth 100000 in
set_option maxHeartbeats 4000000 in
theorem part_any (s : ByteArray) (w : World) (l : List UInt8) (hl : Hid (s.data.toList = l)) (hll : Hid (l.length = s.size)) (h0 : 0 < s.size) (h3 : s.size ≤ 3) (R : Bool) (hR : Hid (R = true ↔ PHit l)) :
    Calls Try.prog 21 #[.string s] w fun e w' => e = .returned (.bool R) ∧ Below w.heap.size w w' := by
  obtain ⟨i0, hi, hz0, hz1, hz2⟩ := info_parts info5
  go_enter Try.func21, Try.ntmps21
  go_wp2_with fail
  have hP0 := Lib.hid (PW.start w)
  go_loopg [5] 3 (fun g v wr => ∃ i : Nat, i ≤ 3 ∧ g = 3 - i ∧ v = .int .i64 i ∧ Hid (PW w wr) ∧ Hid (∀ a, a < i → ∀ k m, k < 3 → l.length < m → m ≤ 4 → rhit l a k m = false))
  case atStart => exact ⟨0, by omega, rfl, rfl, hP0, Lib.hid (fun a ha => absurd ha (Nat.not_lt_zero _))⟩
  case round =>
    obtain ⟨i, hi3, rfl, rfl, hP, hN⟩ := hrel
    clear hP0
    by_cases hlt : i < 3
    · have hdi : decide ((i : Int) < 3) = true := by rw [decide_eq_true_eq]; omega
      go_wp2_with fail
      go_loopg [6] 3 (fun g v wr => ∃ k : Nat, k ≤ 3 ∧ g = 3 - k ∧ v = .int .i64 k ∧ Hid (PW w wr) ∧ Hid (∀ b, b < k → ∀ m, l.length < m → m ≤ 4 → rhit l i b m = false))
      case atStart => exact ⟨0, by omega, rfl, rfl, hP, Lib.hid (fun a ha => absurd ha (Nat.not_lt_zero _))⟩
      case round =>
        clear hP
        obtain ⟨k, hk3, rfl, rfl, hP, hN2⟩ := hrel
        by_cases hltk : k < 3
        · have hdk : decide ((k : Int) < 3) = true := by rw [decide_eq_true_eq]; omega
          go_wp2_with fail
          go_loopg [7] (4 - s.size) (fun g v wr => ∃ m : Nat, s.size < m ∧ m ≤ 5 ∧ g = 5 - m ∧ v = .int .i64 m ∧ Hid (PW w wr) ∧ Hid (∀ m', l.length < m' → m' < m → rhit l i k m' = false))
          case atStart => exact ⟨s.size + 1, by omega, by omega, by omega, by simp, hP, Lib.hid (fun m' h1 h2 => by have := hll.out; omega)⟩
          case round =>
            clear hP
            obtain ⟨m, hm0, hm5, rfl, rfl, hP, hN3⟩ := hrel
            by_cases hltm : m ≤ 4
            · have hdm : decide ((m : Int) ≤ 4) = true := by rw [decide_eq_true_eq]; omega
              have hk := Lib.run_convert_string_bytes (P := Try.prog) wr 9 35 5 s Try.underlying9 Try.underlying35 Try.underlying5
              go_wp2_with fail
              have hPB : Hid (PW w (Lib.bytesWorld wr 5 s)) := Lib.hid (hP.out.next (bytesWorld_below wr 5 s))
              have hB0 : Hid (BRow (Lib.bytesWorld wr 5 s) (w.heap.size + 2) (.slice (some ⟨wr.heap.size, 0, none⟩) s.size (grownCap wr s.size 0 5)) ((cand4 l i k).take s.size)) := Lib.hid (by
                rw [← hll.out, cand_start, hll.out, ← hl.out]; exact BRow.mono (BRow.made wr 5 s) hP.out.2.1)
              clear hk hP
              go_loopg [8] (4 - s.size) (fun g v wx => ∃ n : Nat, s.size ≤ n ∧ n ≤ m ∧ g = 4 - n ∧ (∃ q cap, v = .slice (some ⟨q, 0, none⟩) n cap) ∧ Hid (BRow wx (w.heap.size + 2) v ((cand4 l i k).take n)) ∧ Hid (PW w wx))
              case atStart => exact ⟨s.size, by omega, by omega, rfl, ⟨_, _, rfl⟩, hB0, hPB⟩
              case round =>
                clear hB0 hPB
                obtain ⟨n, hn0, hnm, rfl, ⟨q, cap, rfl⟩, hB, hP⟩ := hrel
                by_cases hltn : n < m
                · by_cases hn1 : n = 1
                  · subst hn1
                    have hs1 : s.size = 1 := by omega
                    have hl1 : Hid (l.length = 1) := Lib.hid (by rw [hll.out]; exact hs1)
                    have HS1 := Lib.hid hs1
                    clear hs1
                    obtain ⟨lo, hlo⟩ : ∃ lo, lo = lowsL.getD i 0 := ⟨_, rfl⟩
                    obtain ⟨up, hhi⟩ : ∃ up, up = highsL.getD i 0 := ⟨_, rfl⟩
                    have hclo := hP.out.2.2.1 i hlt
                    have hchi := hP.out.2.2.2 i hlt
                    rw [← hlo] at hclo
                    rw [← hhi] at hchi
                    have HLO := Lib.hid hlo
                    have HHI := Lib.hid hhi
                    clear hlo hhi
                    have hi3' : (i : Int) < 3 := by omega
                    have hk012 : k = 0 ∨ k = 1 ∨ k = 2 := by omega
                    rcases hk012 with rfl | rfl | rfl
                    · have hB1 : Hid (BRow ((wr.alloc (.cells #[.int .u8 (lo.toNat : Nat), .int .u8 (up.toNat : Nat)] 5)).alloc (.cells #[.int .u8 (lo.toNat : Nat)] 5)).drew (w.heap.size + 2) (.slice (some ⟨q, 0, none⟩) 1 cap) ((cand4 l i 0).take 1)) := Lib.hid (hB.out.below (below2d wr _ _))
                      have hP1 : Hid (PW w ((wr.alloc (.cells #[.int .u8 (lo.toNat : Nat), .int .u8 (up.toNat : Nat)] 5)).alloc (.cells #[.int .u8 (lo.toNat : Nat)] 5)).drew) := Lib.hid (hP.out.next (below2d wr _ _))
                      have hc1 := cell2d wr #[.int .u8 (lo.toNat : Nat), .int .u8 (up.toNat : Nat)] (.int .u8 (lo.toNat : Nat))
                      have hX : Hid ((cand4 l i 0).take 2 = (cand4 l i 0).take 1 ++ [lo]) := Lib.hid (by rw [cand_snoc1 l i 0 hl1.out, HLO.out]; rfl)
                      have hlen : ((cand4 l i 0).take 1).length + 1 ≤ 1000000 := by simp; omega
                      go_wp2_with fail
                      go_region_law ((refine step_append_brow rfl (.tmp 37) (.tmp 51) 35 rfl 5 i0 Try.underlying35 hi hz0 hz1 hz2 (w.heap.size + 2) _ _ rfl hB1.out hP1.out.2.1 ⟨wr.heap.size + 1, 0, none⟩ 1 lo rfl hc1 rfl hlen ?_; intro v' w' hB' hbel))
                      all_goals
                        have HB := Lib.hid hB'
                        have HP := Lib.hid (hP1.out.step hbel)
                        clear hB' hbel hc1
                        go_wp2_with fail
                        go_roundg (4 - (1 + 1))
                        case measure => go_light; omega
                        case rel =>
                          go_light
                          have hB2 : BRow w' (w.heap.size + 2) v' ((cand4 l i 0).take 2) := by rw [hX.out]; exact HB.out
                          obtain ⟨q', cap', hv, _⟩ := BRow.form hB2 (cand_len l i 0 2 (by rw [hll.out]; exact h0) (by rw [hll.out]; exact h3) (by omega))
                          exact ⟨2, by omega, by omega, rfl, ⟨q', cap', hv⟩, Lib.hid hB2, HP⟩
                    · have hB1 : Hid (BRow ((wr.alloc (.cells #[.int .u8 (lo.toNat : Nat), .int .u8 (up.toNat : Nat)] 5)).alloc (.cells #[.int .u8 (up.toNat : Nat)] 5)).drew (w.heap.size + 2) (.slice (some ⟨q, 0, none⟩) 1 cap) ((cand4 l i 1).take 1)) := Lib.hid (hB.out.below (below2d wr _ _))
                      have hP1 : Hid (PW w ((wr.alloc (.cells #[.int .u8 (lo.toNat : Nat), .int .u8 (up.toNat : Nat)] 5)).alloc (.cells #[.int .u8 (up.toNat : Nat)] 5)).drew) := Lib.hid (hP.out.next (below2d wr _ _))
                      have hc1 := cell2d wr #[.int .u8 (lo.toNat : Nat), .int .u8 (up.toNat : Nat)] (.int .u8 (up.toNat : Nat))
                      have hX : Hid ((cand4 l i 1).take 2 = (cand4 l i 1).take 1 ++ [up]) := Lib.hid (by rw [cand_snoc1 l i 1 hl1.out, HHI.out]; rfl)
                      have hlen : ((cand4 l i 1).take 1).length + 1 ≤ 1000000 := by simp; omega
                      go_wp2_with fail
                      go_region_law ((refine step_append_brow rfl (.tmp 37) (.tmp 51) 35 rfl 5 i0 Try.underlying35 hi hz0 hz1 hz2 (w.heap.size + 2) _ _ rfl hB1.out hP1.out.2.1 ⟨wr.heap.size + 1, 0, none⟩ 1 up rfl hc1 rfl hlen ?_; intro v' w' hB' hbel))
                      all_goals
                        have HB := Lib.hid hB'
                        have HP := Lib.hid (hP1.out.step hbel)
                        clear hB' hbel hc1
                        go_wp2_with fail
                        go_roundg (4 - (1 + 1))
                        case measure => go_light; omega
                        case rel =>
                          go_light
                          have hB2 : BRow w' (w.heap.size + 2) v' ((cand4 l i 1).take 2) := by rw [hX.out]; exact HB.out
                          obtain ⟨q', cap', hv, _⟩ := BRow.form hB2 (cand_len l i 1 2 (by rw [hll.out]; exact h0) (by rw [hll.out]; exact h3) (by omega))
                          exact ⟨2, by omega, by omega, rfl, ⟨q', cap', hv⟩, Lib.hid hB2, HP⟩
                    · have hB1 : Hid (BRow ((wr.alloc (.cells #[.int .u8 (lo.toNat : Nat), .int .u8 (up.toNat : Nat)] 5)).alloc (.cells #[.int .u8 (lo.toNat : Nat)] 5)).drew (w.heap.size + 2) (.slice (some ⟨q, 0, none⟩) 1 cap) ((cand4 l i 2).take 1)) := Lib.hid (hB.out.below (below2d wr _ _))
                      have hP1 : Hid (PW w ((wr.alloc (.cells #[.int .u8 (lo.toNat : Nat), .int .u8 (up.toNat : Nat)] 5)).alloc (.cells #[.int .u8 (lo.toNat : Nat)] 5)).drew) := Lib.hid (hP.out.next (below2d wr _ _))
                      have hc1 := cell2d wr #[.int .u8 (lo.toNat : Nat), .int .u8 (up.toNat : Nat)] (.int .u8 (lo.toNat : Nat))
                      have hX : Hid ((cand4 l i 2).take 2 = (cand4 l i 2).take 1 ++ [lo]) := Lib.hid (by rw [cand_snoc1 l i 2 hl1.out, HLO.out]; rfl)
                      have hlen : ((cand4 l i 2).take 1).length + 1 ≤ 1000000 := by simp; omega
                      go_wp2_with fail
                      go_region_law ((refine step_append_brow rfl (.tmp 37) (.tmp 51) 35 rfl 5 i0 Try.underlying35 hi hz0 hz1 hz2 (w.heap.size + 2) _ _ rfl hB1.out hP1.out.2.1 ⟨wr.heap.size + 1, 0, none⟩ 1 lo rfl hc1 rfl hlen ?_; intro v' w' hB' hbel))
                      all_goals
                        have HB := Lib.hid hB'
                        have HP := Lib.hid (hP1.out.step hbel)
                        clear hB' hbel hc1
                        go_wp2_with fail
                        go_roundg (4 - (1 + 1))
                        case measure => go_light; omega
                        case rel =>
                          go_light
                          have hB2 : BRow w' (w.heap.size + 2) v' ((cand4 l i 2).take 2) := by rw [hX.out]; exact HB.out
                          obtain ⟨q', cap', hv, _⟩ := BRow.form hB2 (cand_len l i 2 2 (by rw [hll.out]; exact h0) (by rw [hll.out]; exact h3) (by omega))
                          exact ⟨2, by omega, by omega, rfl, ⟨q', cap', hv⟩, Lib.hid hB2, HP⟩
                  · have hn1' : ((n : Int) == 1) = false := by rw [beq_eq_false_iff_ne]; omega
                    have hB1 : Hid (BRow (wr.alloc (.cells #[.int .u8 128] 5)) (w.heap.size + 2) (.slice (some ⟨q, 0, none⟩) n cap) ((cand4 l i k).take n)) := Lib.hid (hB.out.below ((Below.refl _ _).alloc (Nat.le_refl _) _))
                    have hP1 : Hid (PW w (wr.alloc (.cells #[.int .u8 128] 5))) := Lib.hid (hP.out.next ((Below.refl _ _).alloc (Nat.le_refl _) _))
                    have hlen : ((cand4 l i k).take n).length + 1 ≤ 1000000 := by simp; omega
                    go_wp2_with (at_builtin; refine wpList_append_brow rfl (.tmp 53) (.tmp 54) 35 rfl 5 i0 Try.underlying35 hi hz0 hz1 hz2 (w.heap.size + 2) _ _ rfl hB1.out hP1.out.2.1 ⟨wr.heap.size, 0, none⟩ 1 128 rfl ?c1 rfl hlen ?_)
                    case c1 => rw [World.cell?_alloc_at _ _ _ _ rfl]; rfl
                    intro v' w' hB' hbel
                    have HB := Lib.hid hB'
                    have HP := Lib.hid (hP1.out.step hbel)
                    clear hB' hbel
                    go_wp2_with fail
                    go_roundg (4 - (n + 1))
                    case measure => go_light; omega
                    case rel =>
                      go_light
                      have hcl := cand_len l i k (n + 1) (by rw [hll.out]; exact h0) (by rw [hll.out]; exact h3) (by omega)
                      have hsn := cand_snoc l i k n (by rw [hll.out]; exact h0) (by rw [hll.out]; exact hn0) (by omega) hn1
                      have hB2 : BRow w' (w.heap.size + 2) v' ((cand4 l i k).take (n + 1)) := by rw [hsn]; exact HB.out
                      obtain ⟨q', cap', hv, _⟩ := BRow.form hB2 hcl
                      exact ⟨n + 1, by omega, by omega, rfl, ⟨q', cap', hv⟩, Lib.hid hB2, HP⟩
                · obtain rfl : n = m := by omega
                  have hcl : Hid (((cand4 l i k).take n).length = n) := Lib.hid (cand_len l i k n (by rw [hll.out]; exact h0) (by rw [hll.out]; exact h3) hltm)
                  have hk := BRow.conv hB.out hcl.out
                  go_wp2_with fail
                  refine (rscalar_to _ _).mono ?_; rintro e w2 ⟨rfl, hb2⟩
                  have hP2 := Lib.hid (hP.out.next hb2)
                  clear hk hb2
                  cases hh : rhit l i k n
                  · have hh' : (((uscal ((cand4 l i k).take n)).2 : Int) == (n : Int)) = false := by
                      rw [beq_eq_false_iff_ne]; rw [rhit, beq_eq_false_iff_ne] at hh; omega
                    have HH := Lib.hid hh
                    clear hh
                    go_wp2_with fail
                    go_roundg (5 - (n + 1))
                    case measure => go_light; omega
                    case rel => go_light; exact ⟨n + 1, by omega, by omega, by omega, by go_num, hP2, Lib.hid (fun m' h1 h2 => by
                      by_cases e : m' = n
                      · subst e; exact HH.out
                      · exact hN3.out m' h1 (by omega))⟩
                  · have hh' : (((uscal ((cand4 l i k).take n)).2 : Int) == (n : Int)) = true := by
                      rw [beq_iff_eq]; rw [rhit, beq_iff_eq] at hh; omega
                    have HH := Lib.hid hh
                    clear hh
                    go_wp2_with fail
                    go_ret
                    exact ⟨by rw [hR.out.2 ⟨i, k, n, hlt, hltk, by rw [hll.out]; exact hm0, hltm, HH.out⟩]; rfl, hP2.out.1⟩
            · go_wp2_with fail
              go_roundg (3 - (k + 1))
              case measure => go_light; omega
              case rel => go_light; exact ⟨k + 1, by omega, by omega, by go_num, hP, Lib.hid (fun b hb m' h1 h2 => by
                by_cases e : b = k
                · subst e; exact hN3.out m' h1 (by omega)
                · exact hN2.out b (by omega) m' h1 h2)⟩
        · go_wp2_with fail
          go_roundg (3 - (i + 1))
          case measure => go_light; omega
          case rel => go_light; exact ⟨i + 1, by omega, by omega, by go_num, hP, Lib.hid (fun a ha k' m' hk' h1 h2 => by
            by_cases e : a = i
            · subst e; exact hN2.out k' (by omega) m' h1 h2
            · exact hN.out a (by omega) k' m' hk' h1 h2)⟩
    · go_wp2_with fail
      go_ret
      have hRf : R = false := by
        cases hr : R
        · rfl
        · obtain ⟨a, b, c, q1, q2, q3, q4, q5⟩ := hR.out.1 hr
          have := hN.out a (by omega) b c q2 q3 q4
          rw [this] at q5; exact absurd q5 (by decide)
      exact ⟨by rw [hRf]; rfl, hP.out.1⟩
end Go.Proofs.Ytghfinkckdbamaa
