/- The walk of Read. -/
import Derived.Test.YtdbdmpdfjhmfhaaIW8
import Derived.Test.YtdbdmpdfjhmfhaaIPlain5
import Derived.Deep.RegionLaw
import Derived.Deep.QuietTactic
import Derived.BigQuiet
import Derived.WalkSmall
namespace Go.Proofs.Ytdbdmpdfjhmfhaa
open Go.RowKit Go.Proofs.Lx

/-- append to a row of the call's own, as one step of a region that draws -/
theorem step_append_mine {P : Program} {ops : Array Oper} {o : Oper} {a : Act} {w : World} {K : Act → World → Prop} {Q : Exit → Act → World → Prop} {E : Prop}
    (hg : o.guard = none) (s x : Operand) (t : TypeId) (hop : o.op = Op.call { callee := Callee.builtin Builtin.append, args := #[s, x], argTypes := #[t, t] })
    (base : Nat) (e : TypeId) (i : TypeInfo) (z : Value) (size bytes : Nat) (h1 : P.underlying t = some (.slice e)) (h2 : P.info? e = some i) (h3 : i.zero = some z) (h4 : i.size = size) (h5 : i.bytes = bytes) (h6 : z.cells.size = size) (h7 : 0 < size)
    (v : Value) (n : Nat) (xs : List Value) (hs : a.eval s = v) (hown : w.ownsRow base e size v n xs)
    (ad : Addr) (m c : Nat) (news : List Value) (hx : a.eval x = .slice (some ad) m c) (hn : news.length = m * size) (hc : ∀ j u, news[j]? = some u → w.cell? (ad.add j) = some u) (h1c : ∀ u ∈ news, u.oneCell' = true)
    (b1 : n + m ≤ maxLen) (b2 : (n + m) * bytes ≤ 140737488355328) (hb : base ≤ w.heap.size)
    (hK : ∀ v' w', w'.ownsRow base e size v' (n + m) (xs ++ news) → w.grownBy w' v.ownBlock → K (a.put o.dst v') w') :
    if Region.wanted o (yielded ops a.tmps) = true then Oper.wp P o a w K Q else E := by
  have hw : Region.wanted o (yielded ops a.tmps) = true := by simp [Region.wanted, hg]
  rw [if_pos hw]
  obtain ⟨v', w', hrun, r1, r2, _⟩ := run_append_own (P := P) w base t o.type e i z size bytes h1 h2 h3 h4 h5 h6 h7 v n xs hown ad m c news hn hc h1c b1 b2 hb
  unfold Oper.wp
  simp [execOp, hop, resolve, invoke, builtin, hs, hx, hrun, Result.andThen]
  exact hK v' w' r1 r2
theorem info30 : (Try.prog.info? 30).map (fun i => (i.zero, i.size, i.bytes)) = some (some (.agg #[.int .i64 0, .int .i64 0, .int .i64 0, .int .i64 0, .string ⟨#[]⟩]), 5, 48) := by kernel_rfl

theorem wide_to (s : ByteArray) (n : Nat) (w : World) (hs : s.size ≤ 8) (h : Hid (wideTo s.data.toList = n)) :
    Calls Try.prog 23 #[.string s] w fun e w' => e = .returned (.int .u64 (n : Nat)) ∧ w' = w := by
  rw [← h.out]; exact (wide_any s w hs).mono fun _ _ h => ⟨h.1, h.2.symm⟩
theorem sum_to' (s : ByteArray) (n : Nat) (w : World) (hs : s.size ≤ maxLen) (h : Hid (sumL s.data.toList = n)) :
    Calls Try.prog 16 #[.string s] w fun e w' => e = .returned (.int .u64 (n : Nat)) ∧ w' = w := by
  rw [← h.out]; exact (sum_any s w hs).mono fun _ _ h => ⟨h.1, h.2.symm⟩
abbrev Zt : Array Value := #[.int .i64 0, .int .i64 0, .slice none 0 0]

theorem read_short (s : ByteArray) (w : World) (hs : s.size < 40) :
    Calls Try.prog 13 #[.string s] w fun e w' => e = .returned (.tuple #[.agg Zt, .int .i64 3]) ∧ Below w.heap.size w w' := by
  go_enter Try.func13, Try.ntmps13
  go_wp2_with fail
  exact bodyPost_ret (v := .tuple #[.agg Zt, .int .i64 3]) (by simp [results, Try.results13, go_sem]) rfl ⟨rfl, below1 _ _⟩

theorem read_sum (s : ByteArray) (w : World) (hs : ¬ s.size < 40) (hs2 : s.size ≤ 10000) (wv sv : Nat) (hw : Hid (wideTo (s.extract (s.size - 8) s.size).data.toList = wv)) (hv : Hid (sumL (s.extract 0 (s.size - 8)).data.toList = sv)) (hne : ((wv : Int) != (sv : Int)) = true) :
    Calls Try.prog 13 #[.string s] w fun e w' => e = .returned (.tuple #[.agg Zt, .int .i64 11]) ∧ Below w.heap.size w w' := by
  go_enter Try.func13, Try.ntmps13
  go_wp2_with fail
  go_quiet (first | (go_at_call 23; refine Calls.quiet_of_same (wide_to _ wv _ (by simp; omega) hw)) | (go_at_call 16; refine Calls.quiet_of_same (sum_to' _ sv _ (by simp; unfold maxLen; omega) hv)))
  go_wp2_with fail
  exact bodyPost_ret (v := .tuple #[.agg Zt, .int .i64 11]) (by simp [results, Try.results13, go_sem]) rfl ⟨rfl, (((below_drewN (below1 w _) _).setCell (Nat.le_refl _) _).setCell (Nat.le_refl _) _).setCell (Nat.le_refl _) _⟩

/-- an entry's five cells -/
def flat1 (x : En) : List Value := [.int .i64 x.frm, .int .i64 x.to, .int .i64 x.ver, .int .i64 x.at_, .string x.bytes]
def flat : List En → List Value
  | [] => []
  | x :: L => flat1 x ++ flat L
theorem flat_append (L M : List En) : flat (L ++ M) = flat L ++ flat M := by
  induction L with
  | nil => rfl
  | cons x L ih => simp [flat, ih]
theorem flat_len (L : List En) : (flat L).length = L.length * 5 := by
  induction L with
  | nil => rfl
  | cons x L ih => simp [flat, flat1, ih]; omega
theorem flat_at (L : List En) (i : Nat) (x : En) (h : L[i]? = some x) (j : Nat) (hj : j < 5) : (flat L)[i * 5 + j]? = (flat1 x)[j]? := by
  induction L generalizing i with
  | nil => simp at h
  | cons y L ih =>
    cases i with
    | zero =>
      simp at h; subst h
      simp only [flat, Nat.zero_mul, Nat.zero_add]
      rw [List.getElem?_append_left (by simp [flat1]; exact hj)]
    | succ i =>
      simp only [flat]
      rw [List.getElem?_append_right (by simp [flat1]; omega)]
      have e : (i + 1) * 5 + j - (flat1 y).length = i * 5 + j := by simp [flat1]; omega
      rw [e]; exact ih i (by simpa using h)
theorem ents_of_owns {w : World} {B : Nat} {v : Value} {L : List En} (h : w.ownsRow B 30 5 v L.length (flat L)) (hl : L.length ≤ 100000) : ∃ a cap, v = .slice a L.length cap ∧ Ents w a L.length L := by
  obtain ⟨hlen, ⟨hv, h0⟩ | ⟨g, cap, cur, hv, hB, hg, hc, hm, hsz, ht⟩⟩ := h
  · have : L = [] := List.eq_nil_of_length_eq_zero h0
    subst this
    exact ⟨none, 0, hv, rfl, by simp, fun h => absurd h (Nat.lt_irrefl 0)⟩
  · have hlt : g < w.heap.size := by
      rcases Nat.lt_or_ge g w.heap.size with h' | h'
      · exact h'
      · rw [Array.getElem?_eq_none h'] at hg; exact absurd hg (by simp)
    refine ⟨_, cap, hv, rfl, by omega, fun _ => ⟨g, 0, rfl, hlt, fun i x hx => ?_⟩⟩
    have hi : i < L.length := (List.getElem?_eq_some_iff.1 hx).1
    have key : ∀ j, j < 5 → w.cell? ⟨g, 0 + i * 5 + j, none⟩ = (flat1 x)[j]? := by
      intro j hj
      have e1 : cur[i * 5 + j]? = (flat1 x)[j]? := by
        have := congrArg (fun l => l[i * 5 + j]?) ht
        simp only [List.getElem?_take, Array.getElem?_toList] at this
        rw [if_pos (by omega), flat_at L i x hx j hj] at this
        exact this
      simp [World.cell?, hg, e1]
    exact ⟨key 0 (by omega), key 1 (by omega), key 2 (by omega), key 3 (by omega), key 4 (by omega)⟩

def ReadPost (w : World) (deep size : Int) (L : List En) (err : Int) (e : Ending) (w' : World) : Prop :=
  ∃ (a : Option Addr) (cap : Nat), e = .returned (.tuple #[.agg #[.int .i64 deep, .int .i64 size, .slice a L.length cap], .int .i64 err]) ∧ Ents w' a L.length L ∧ Below w.heap.size w w'
theorem ReadPost.zero {w w' : World} {err : Int} {e : Ending} (he : e = .returned (.tuple #[.agg Zt, .int .i64 err])) (h : Below w.heap.size w w') : ReadPost w 0 0 [] err e w' :=
  ⟨Option.none, 0, he, ⟨rfl, by simp, fun h => absurd h (Nat.lt_irrefl 0)⟩, h⟩

/-- what stands through Read's loop: g the reader's block, tb the table's -/
def LI (w wr : World) (g tb dp sz : Nat) (v : Value) (L : List En) (s : ByteArray) (bad : Bool) : Prop :=
  RD wr g s bad ∧ BK wr tb #[.int .i64 (dp : Int), .int .i64 (sz : Int), v] 24 ∧ wr.ownsRow (tb + 1) 30 5 v L.length (flat L) ∧ BK wr w.heap.size Zt 24 ∧ Below w.heap.size w wr
theorem own_grown {w w' : World} {B n g : Nat} {v : Value} {xs : List Value} (h : w.ownsRow B 30 5 v n xs) (hg : w.grownBy w' (some g)) (hgB : g < B) : w'.ownsRow B 30 5 v n xs :=
  h.kept hg (by
    cases hv : v.ownBlock with
    | none => exact .inl rfl
    | some k => exact .inr (fun e => by have := (h.lt k hv).1; injection e with e; omega))
theorem LI.call {w wr w' : World} {g tb dp sz : Nat} {v : Value} {L : List En} {s s' : ByteArray} {bad bad' : Bool} (h : LI w wr g tb dp sz v L s bad) (hg : w.heap.size < g) (hgt : g < tb) (h1 : RD w' g s' bad') (h2 : wr.grownBy w' (some g)) : LI w w' g tb dp sz v L s' bad' :=
  ⟨h1, h.2.1.grown h2 (by omega), own_grown h.2.2.1 h2 (by omega), h.2.2.2.1.grown h2 (by omega),
    h.2.2.2.2.grown h2 h.2.2.2.2.size (fun k hk => by injection hk with hk; omega)⟩

def ReadOut (w : World) (ok : Bool) (dp sz : Nat) (L : List En) (e : Ending) (w' : World) : Prop :=
  (ok = true → ReadPost w dp sz L 0 e w') ∧ (ok = false → ReadPost w 0 0 [] 3 e w')
theorem ReadOut.yes {w w' : World} {ok : Bool} {dp sz : Nat} {L : List En} {e : Ending} (ho : ok = true) (h : ReadPost w dp sz L 0 e w') : ReadOut w ok dp sz L e w' :=
  ⟨fun _ => h, fun h' => absurd (ho.symm.trans h') (by decide)⟩
theorem ReadOut.no {w w' : World} {ok : Bool} {dp sz : Nat} {L : List En} {e : Ending} (ho : ok = false) (h : ReadPost w 0 0 [] 3 e w') : ReadOut w ok dp sz L e w' :=
  ⟨fun h' => absurd (ho.symm.trans h') (by decide), fun _ => h⟩
theorem own_below {w w' : World} {B n : Nat} {v : Value} {xs : List Value} (h : w.ownsRow B 30 5 v n xs) (hb : Below w.heap.size w w') : w'.ownsRow B 30 5 v n xs :=
  h.kept (row := Option.none) ⟨hb.os, hb.tape, hb.output, hb.size, fun k hk _ => hb.block k hk⟩ (by
    cases hv : v.ownBlock with
    | none => exact .inl rfl
    | some k => exact .inr (fun e => by injection e))
theorem ents_at {w : World} {B cap : Nat} {a : Option Addr} {L : List En} (h : w.ownsRow B 30 5 (.slice a L.length cap) L.length (flat L)) (hl : L.length ≤ 100000) : Ents w a L.length L := by
  obtain ⟨a', cap', hv, hE⟩ := ents_of_owns h hl
  injection hv with h1 h2 h3
  subst h1; exact hE
/-- what stands before the table is laid -/
def NI (w wi : World) (s : ByteArray) (bad : Bool) : Prop := RD wi (w.heap.size + 1) s bad ∧ BK wi w.heap.size Zt 24 ∧ Below w.heap.size w wi
theorem NI.call {w wi w' : World} {s s' : ByteArray} {bad bad' : Bool} (h : NI w wi s bad) (h1 : RD w' (w.heap.size + 1) s' bad') (h2 : wi.grownBy w' (some (w.heap.size + 1))) : NI w w' s' bad' :=
  ⟨h1, h.2.1.grown h2 (by omega), h.2.2.grown h2 h.2.2.size (fun k hk => by injection hk with hk; omega)⟩
theorem NI.start (w : World) (n : Nat) (s : ByteArray) : NI w (((w.alloc (.cells #[.int .i64 0, .int .i64 0, .slice none 0 0] 24)).drewN n).alloc (.cells #[.string s, .bool false] 57)) s false := by
  have h1 : ((w.alloc (.cells #[.int .i64 0, .int .i64 0, .slice none 0 0] 24)).drewN n).heap.size = w.heap.size + 1 := by simp
  refine ⟨?_, BK.alloc (show BK ((w.alloc (.cells #[.int .i64 0, .int .i64 0, .slice none 0 0] 24)).drewN n) w.heap.size Zt 24 from BK.new w Zt 24) _, (below_drewN (below1 w _) n).alloc (by rw [h1]; omega) _⟩
  have := BK.new ((w.alloc (.cells #[.int .i64 0, .int .i64 0, .slice none 0 0] 24)).drewN n) #[.string s, .bool false] 57
  rw [h1] at this; exact this
theorem LI.drew {w wr : World} {g tb dp sz : Nat} {v : Value} {L : List En} {s : ByteArray} {bad : Bool} (h : LI w wr g tb dp sz v L s bad) : LI w wr.drew g tb dp sz v L s bad :=
  ⟨h.1, h.2.1, h.2.2.1, h.2.2.2.1, h.2.2.2.2.drew⟩
theorem ent_to (g : Nat) (s : ByteArray) (bad : Bool) (w : World) (hR : Hid (RD w g s bad)) (hs : s.size ≤ 10000) (x : En) (s' : ByteArray) (bad' : Bool) (h : Hid (entP s bad = (x, s', bad'))) :
    Calls Try.prog 26 #[.pointer (some ⟨g, 0, none⟩)] w fun e w' => e = .returned (.agg #[.int .i64 x.frm, .int .i64 x.to, .int .i64 x.ver, .int .i64 x.at_, .string x.bytes]) ∧ RD w' g s' bad' ∧ w.grownBy w' (some g) := by
  obtain ⟨a, s1, b1, h1⟩ : ∃ a s1 b1, numP 1048576 s bad = (a, s1, b1) := ⟨_, _, _, rfl⟩
  obtain ⟨b, s2, b2, h2⟩ : ∃ a s2 b2, numP 1048576 s1 b1 = (a, s2, b2) := ⟨_, _, _, rfl⟩
  obtain ⟨c, s3, b3, h3⟩ : ∃ a s3 b3, takeP 1 s2 b2 = (a, s3, b3) := ⟨_, _, _, rfl⟩
  obtain ⟨d, s4, b4, h4⟩ : ∃ a s4 b4, numP 65536 s3 b3 = (a, s4, b4) := ⟨_, _, _, rfl⟩
  obtain ⟨e, s5, b5, h5⟩ : ∃ a s5 b5, numP 1048576 s4 b4 = (a, s5, b5) := ⟨_, _, _, rfl⟩
  obtain ⟨f, s6, b6, h6⟩ : ∃ a s6 b6, takeP e s5 b5 = (a, s6, b6) := ⟨_, _, _, rfl⟩
  have hx := h.out
  simp only [entP, h1, h2, h3, h4, h5, h6, Prod.mk.injEq] at hx
  obtain ⟨rfl, rfl, rfl⟩ := hx
  exact ent_any g s bad w hR hs a s1 b1 (Lib.hid h1) b s2 b2 (Lib.hid h2) c s3 b3 (Lib.hid h3) d s4 b4 (Lib.hid h4) e s5 b5 (Lib.hid h5) f s6 b6 (Lib.hid h6)
theorem own_form {w : World} {B n : Nat} {v : Value} {xs : List Value} (h : w.ownsRow B 30 5 v (n + 1) xs) : ∃ g cap, v = .slice (some ⟨g, 0, none⟩) (n + 1) cap := by
  rcases h.2 with ⟨_, h0⟩ | ⟨g, cap, cur, hv, _⟩
  · omega
  · exact ⟨g, cap, hv⟩
theorem flat1_at (w : World) (x : En) : ∀ j u, (flat1 x)[j]? = some u → (w.alloc (.cells #[.int .i64 x.frm, .int .i64 x.to, .int .i64 x.ver, .int .i64 x.at_, .string x.bytes] 30)).cell? ((⟨w.heap.size, 0, none⟩ : Addr).add j) = some u := by
  intro j u hj
  rw [Addr.add_lit, World.cell?_alloc_at _ _ _ _ rfl, Nat.zero_add]
  simpa [flat1] using hj
theorem flat1_one (x : En) : ∀ u ∈ flat1 x, u.oneCell' = true := by
  intro u hu
  simp [flat1] at hu
  rcases hu with rfl | rfl | rfl | rfl | rfl <;> rfl
/-- one entry more -/
theorem LI.more {w w5 w6 : World} {g tb dp sz : Nat} {v v6 : Value} {L : List En} {s : ByteArray} {bad : Bool} {x : En} {o : Obj} (h : LI w w5 g tb dp sz v L s bad) (hg : w.heap.size < g) (hgt : g < tb)
    (ho : w6.ownsRow (tb + 1) 30 5 v6 (L.length + 1) (flat L ++ flat1 x)) (hg6 : (w5.alloc o).grownBy w6 v.ownBlock) :
    BK w6 tb #[.int .i64 (dp : Int), .int .i64 (sz : Int), v] 24 ∧ LI w (w6.setCell ⟨tb, 2, none⟩ v6) g tb dp sz v6 (L ++ [x]) s bad := by
  have hrow : ∀ k, v.ownBlock = some k → tb + 1 ≤ k := fun k hk => (h.2.2.1.lt k hk).1
  have htb := h.2.1.lt
  have keep : ∀ q t C, q < tb + 1 → BK w5 q C t → BK w6 q C t := by
    intro q t C hq hb
    have h1 := BK.lt hb
    have h2 := BK.alloc hb o
    unfold BK at *
    rw [hg6.block q (by simp; omega) (fun e => by have := hrow q e.symm; omega)]
    exact h2
  have hb6 := keep tb 24 _ (by omega) h.2.1
  have hbel : Below w.heap.size w w6 := (h.2.2.2.2.alloc h.2.2.2.2.size o).grown hg6 (by have := h.2.2.2.2.size; simp; omega) (fun k hk => by have := hrow k hk; omega)
  refine ⟨hb6, BK.other (keep g 57 _ (by omega) h.1) _ _ _ (by omega), ?_, ?_, BK.other (keep w.heap.size 24 _ (by omega) h.2.2.2.1) _ _ _ (by omega), hbel.setCell (p := ⟨tb, 2, none⟩) (by show w.heap.size ≤ tb; omega) _⟩
  · have := BK.set hb6 2 v6
    simpa using this
  · have e : flat (L ++ [x]) = flat L ++ flat1 x := by simp [flat_append, flat]
    rw [e, List.length_append]
    exact ho.kept (set_grown w6 tb 2 v6) (by
      cases hv : v6.ownBlock with
      | none => exact .inl rfl
      | some k => exact .inr (fun q => by have := (ho.lt k hv).1; injection q with q; omega))
theorem LI.start {w wi : World} {s : ByteArray} {bad : Bool} (dp sz : Nat) (h : NI w wi s bad) : LI w (wi.alloc (.cells #[.int .i64 (dp : Int), .int .i64 (sz : Int), .slice none 0 0] 24)) (w.heap.size + 1) wi.heap.size dp sz (.slice none 0 0) [] s bad :=
  ⟨h.1.alloc _, BK.new _ _ _, World.ownsRow_nil _ _ _ _, h.2.1.alloc _, h.2.2.alloc h.2.2.size _⟩

set_option maxRecDepth 100000 in
set_option maxHeartbeats 4000000 in
theorem read_main (s : ByteArray) (w : World) (hs : ¬ s.size < 40) (hs2 : s.size ≤ 10000) (wv : Nat) (hw : Hid (wideTo (s.extract (s.size - 8) s.size).data.toList = wv)) (hv : Hid (sumL (s.extract 0 (s.size - 8)).data.toList = wv))
    (N8 s1 : ByteArray) (b1 : Bool) (h1 : Hid (takeP 8 (s.extract 0 (s.size - 8)) false = (N8, s1, b1))) (hnm : (N8.toList == [108, 97, 99, 101, 119, 111, 114, 107]) = true)
    (dp : Nat) (s2 : ByteArray) (b2 : Bool) (h2 : Hid (numP 4096 s1 b1 = (dp, s2, b2)))
    (sz : Nat) (s3 : ByteArray) (b3 : Bool) (h3 : Hid (numP 1048576 s2 b2 = (sz, s3, b3)))
    (K : Nat) (s4 : ByteArray) (b4 : Bool) (h4 : Hid (numP 4096 s3 b3 = (K, s4, b4))) (L : List En) (s5 : ByteArray) (b5 : Bool) (h5 : Hid (loopP K s4 b4 [] = (L, s5, b5))) (ok : Bool) (hok : Hid (ok = true ↔ b5 = false ∧ s5.size = 0 ∧ FormedT dp sz L)) :
    Calls Try.prog 13 #[.string s] w fun e w' => ReadOut w ok dp sz L e w' := by
  have z0 : (s.extract 0 (s.size - 8)).size ≤ 10000 := by simp; omega
  have z1 : s1.size ≤ 10000 := by have := (takeP_size 8 (s.extract 0 (s.size - 8)) false).2.2; rw [h1.out] at this; simp only at this; omega
  have z2 : s2.size ≤ s1.size := by have := (numP_size 4096 s1 b1).2; rw [h2.out] at this; exact this
  have z3 : s3.size ≤ s2.size := by have := (numP_size 1048576 s2 b2).2; rw [h3.out] at this; exact this
  have z4 : s4.size ≤ s3.size := by have := (numP_size 4096 s3 b3).2; rw [h4.out] at this; exact this
  have y4 : K ≤ 4096 := by have := (numP_size 4096 s3 b3).1; rw [h4.out] at this; exact this
  obtain ⟨i0, hi, hz0, hz1, hz2⟩ := info_parts info30
  have hne : ((wv : Int) != (wv : Int)) = false := by simp
  go_enter Try.func13, Try.ntmps13
  go_wp2_with fail
  go_quiet (first | (go_at_call 23; refine Calls.quiet_of_same (wide_to _ wv _ (by simp; omega) hw)) | (go_at_call 16; refine Calls.quiet_of_same (sum_to' _ wv _ (by simp; unfold maxLen; omega) hv)))
  have hI0 := Lib.hid (NI.start w nq (s.extract 0 (s.size - 8)))
  go_wp2_with fail
  refine (take_to (w.heap.size + 1) 8 _ _ false _ (Lib.hid hI0.out.1) (by omega) z0 N8 s1 b1 h1 (by rfl)).mono ?_; rintro x w1 ⟨rfl, q1, q2⟩
  have hI1 := Lib.hid (hI0.out.call q1 q2)
  clear q1 q2 hI0 h1
  go_wp2_with fail
  refine (num_to (w.heap.size + 1) 4096 _ s1 b1 _ (Lib.hid hI1.out.1) (by omega) z1 dp s2 b2 h2 (by rfl)).mono ?_; rintro x w2 ⟨rfl, q1, q2⟩
  have hI2 := Lib.hid (hI1.out.call q1 q2)
  clear q1 q2 hI1 h2
  go_wp2_with fail
  refine (num_to (w.heap.size + 1) 1048576 _ s2 b2 _ (Lib.hid hI2.out.1) (by omega) (by omega) sz s3 b3 h3 (by rfl)).mono ?_; rintro x w3 ⟨rfl, q1, q2⟩
  have hI3 := Lib.hid (hI2.out.call q1 q2)
  clear q1 q2 hI2 h3
  have hJ0 := Lib.hid (LI.start dp sz hI3.out)
  have hgt : w.heap.size + 1 < w3.heap.size := hI3.out.1.lt
  go_wp2_with fail
  refine (num_to (w.heap.size + 1) 4096 _ s3 b3 _ (Lib.hid hJ0.out.1) (by omega) (by omega) K s4 b4 h4 (by rfl)).mono ?_; rintro x w4 ⟨rfl, q1, q2⟩
  have hJ1 := Lib.hid (hJ0.out.call (by omega) hgt q1 q2)
  clear q1 q2 hI3 hJ0 h4
  obtain ⟨tb, htb⟩ : ∃ tb, tb = w3.heap.size := ⟨_, rfl⟩
  rw [← htb] at hgt hJ1 ⊢
  clear htb
  go_wp2_with fail
  go_loopg [7] K (fun q v wr => ∃ (v' : Value) (s' : ByteArray) (b' : Bool) (L' : List En), v = .int .i64 q ∧ L'.length + q ≤ 4096 ∧ s'.size ≤ 10000 ∧ Hid (loopP q s' b' L' = (L, s5, b5)) ∧ Hid (LI w wr (w.heap.size + 1) tb dp sz v' L' s' b'))
  case atStart => exact ⟨_, s4, b4, [], rfl, by simp; omega, by omega, h5, hJ1⟩
  case round =>
    clear h5 hJ1
    obtain ⟨v', s', b', L', rfl, hkl, hs', hP, hJ⟩ := hrel
    obtain ⟨c0, c1, f0, f1⟩ := hJ.out.1.cells
    by_cases hgo : 0 < gk ∧ b' = false
    · obtain ⟨hk0, rfl⟩ := hgo
      have hd0 : decide (0 < (gk : Int)) = true := by rw [decide_eq_true_eq]; omega
      have t2 : wr.cell? ⟨tb, 2, none⟩ = some v' := by rw [hJ.out.2.1.cell]; rfl
      have g2 := hJ.out.2.1.free 2
      obtain ⟨x, s6, b6, hx⟩ : ∃ x s6 b6, entP s' false = (x, s6, b6) := ⟨_, _, _, rfl⟩
      have HX := Lib.hid hx
      clear hx
      have hPn : Hid (loopP (gk - 1) s6 b6 (L' ++ [x]) = (L, s5, b5)) := Lib.hid (by
        have e : gk = (gk - 1) + 1 := by omega
        have := hP.out
        rw [e, loopP_step (gk - 1) s' L' x s6 b6 HX.out] at this; exact this)
      have hs6 : s6.size ≤ 10000 := by have := entP_size s' false; rw [HX.out] at this; simp only at this; omega
      have hJd : Hid (LI w wr.drew (w.heap.size + 1) tb dp sz v' L' s' false) := Lib.hid (LI.drew hJ.out)
      go_wp2_with fail
      have hb2 : (L'.length + 1) * 48 ≤ 140737488355328 := by omega
      have hb1 : L'.length + 1 ≤ maxLen := by unfold maxLen; omega
      go_region_law (first
        | (refine step_append_mine rfl (.tmp 53) (.tmp 56) 22 rfl (tb + 1) 30 i0 _ 5 48 Try.underlying22 hi hz0 hz1 hz2 rfl (by decide) _ _ _ rfl (hJ5.out.2.2.1.alloc _) ⟨w5.heap.size, 0, none⟩ 1 1 (flat1 x) rfl rfl (flat1_at w5 x) (flat1_one x) hb1 hb2 (by have := hJ5.out.2.1.lt; simp; omega) ?_
           intro v6 w6 ho6 hg6
           obtain ⟨q6, cap6, rfl⟩ := own_form ho6
           have hM6 := Lib.hid (hJ5.out.more (by omega) hgt ho6 hg6)
           have t6 : w6.cell? ⟨tb, 2, none⟩ = some v' := (by rw [hM6.out.1.cell]; rfl)
           have g6 := hM6.out.1.free 2
           clear ho6 hg6 t5 g5)
        | (go_simp; go_at_call 26; refine (ent_to (w.heap.size + 1) s' false _ (Lib.hid hJd.out.1) hs' x s6 b6 HX).mono ?_; rintro e w5 ⟨rfl, q1, q2⟩; have hJ5 := Lib.hid (hJd.out.call (by omega) hgt q1 q2); have t5 : w5.cell? ⟨tb, 2, none⟩ = some v' := (by rw [hJ5.out.2.1.cell]; rfl); have g5 := hJ5.out.2.1.free 2; have l5 := hJ5.out.2.1.lt; clear q1 q2))
      all_goals
        have hM := Lib.hid hM6.out.2
        clear hM6 t6 g6 l5
        go_wp2_with fail
        go_roundg (gk - 1)
        case measure => go_light; omega
        case rel =>
          go_light
          exact ⟨_, s6, b6, L' ++ [x], by rw [show ((gk - 1 : Nat) : Int) = (gk : Int) - 1 from by omega], by simp; omega, hs6, hPn, hM⟩
    · have hE : Hid (L' = L ∧ s' = s5 ∧ b' = b5) := Lib.hid (by
        have := hP.out
        cases b' with
        | true => rw [loopP_bad] at this; simpa using this
        | false =>
          have e : gk = 0 := by
            by_cases hz : 0 < gk
            · exact absurd ⟨hz, rfl⟩ hgo
            · omega
          rw [e] at this; simpa [loopP] using this)
      have hgo' : (¬ 0 < gk ∧ b' = false) ∨ b' = true := by
        cases b'
        · left
          refine ⟨fun h => hgo ⟨h, rfl⟩, rfl⟩
        · right; rfl
      clear hgo
      have r0 : wr.cell? ⟨w.heap.size, 0, none⟩ = some (.int .i64 0) := by rw [hJ.out.2.2.2.1.cell]; rfl
      have r1 : wr.cell? ⟨w.heap.size, 1, none⟩ = some (.int .i64 0) := by rw [hJ.out.2.2.2.1.cell]; rfl
      have r2 : wr.cell? ⟨w.heap.size, 2, none⟩ = some (.slice none 0 0) := by rw [hJ.out.2.2.2.1.cell]; rfl
      have k0 := hJ.out.2.2.2.1.free 0
      have k1 := hJ.out.2.2.2.1.free 1
      have k2 := hJ.out.2.2.2.1.free 2
      rcases hgo' with ⟨hk0, rfl⟩ | rfl
      · by_cases he : s'.size = 0
        · have hem : s'.toList.isEmpty = true := by rw [isEmpty_size, decide_eq_true_eq]; exact he
          have t0 : wr.cell? ⟨tb, 0, none⟩ = some (.int .i64 (dp : Int)) := by rw [hJ.out.2.1.cell]; rfl
          have t1 : wr.cell? ⟨tb, 1, none⟩ = some (.int .i64 (sz : Int)) := by rw [hJ.out.2.1.cell]; rfl
          have t2 : wr.cell? ⟨tb, 2, none⟩ = some v' := by rw [hJ.out.2.1.cell]; rfl
          obtain ⟨a', cap', hv', hEn⟩ := ents_of_owns hJ.out.2.2.1 (by omega)
          subst hv'
          have HEn := Lib.hid hEn
          have hokF : Hid (ok = true ↔ FormedT dp sz L') := Lib.hid (by
            rw [hok.out, hE.out.1, ← hE.out.2.1, ← hE.out.2.2]
            exact ⟨fun h => h.2.2, fun h => ⟨rfl, he, h⟩⟩)
          clear hEn he
          go_wp2_with fail
          refine (formed_any _ _ _ _ _ L' _ ok (Lib.hid hokF.out) HEn.out).mono ?_; rintro x w7 ⟨rfl, q1⟩
          have hn0 : BK w7 w.heap.size Zt 24 := by unfold BK; rw [q1.block _ (hJ.out.2.2.2.1.lt)]; exact hJ.out.2.2.2.1
          have hn1 : BK w7 tb #[.int .i64 (dp : Int), .int .i64 (sz : Int), .slice a' L'.length cap'] 24 := by unfold BK; rw [q1.block _ (hJ.out.2.1.lt)]; exact hJ.out.2.1
          have Hn0 := Lib.hid hn0
          have Hn1 := Lib.hid hn1
          have HB7 := Lib.hid (hJ.out.2.2.2.2.trans (q1.mono hJ.out.2.2.2.2.size))
          have HO7 := Lib.hid (own_below hJ.out.2.2.1 q1)
          clear r0 r1 r2 k0 k1 k2 t0 t1 t2 hn0 hn1 q1
          have r0 : w7.cell? ⟨w.heap.size, 0, none⟩ = some (.int .i64 0) := by rw [Hn0.out.cell]; rfl
          have r1 : w7.cell? ⟨w.heap.size, 1, none⟩ = some (.int .i64 0) := by rw [Hn0.out.cell]; rfl
          have r2 : w7.cell? ⟨w.heap.size, 2, none⟩ = some (.slice none 0 0) := by rw [Hn0.out.cell]; rfl
          have k0 := Hn0.out.free 0
          have k1 := Hn0.out.free 1
          have k2 := Hn0.out.free 2
          have t0 : w7.cell? ⟨tb, 0, none⟩ = some (.int .i64 (dp : Int)) := by rw [Hn1.out.cell]; rfl
          have t1 : w7.cell? ⟨tb, 1, none⟩ = some (.int .i64 (sz : Int)) := by rw [Hn1.out.cell]; rfl
          have t2 : w7.cell? ⟨tb, 2, none⟩ = some (.slice a' L'.length cap') := by rw [Hn1.out.cell]; rfl
          cases hk : ok
          · have HK := Lib.hid hk
            clear hk
            go_wp2_with fail
            exact bodyPost_ret (v := .tuple #[.agg Zt, .int .i64 3]) (by simp [results, Try.results13, go_sem, r0, r1, r2]) rfl (ReadOut.no HK.out (ReadPost.zero rfl (((HB7.out.setCell (Nat.le_refl _) _).setCell (Nat.le_refl _) _).setCell (Nat.le_refl _) _)))
          · have HK := Lib.hid hk
            clear hk
            go_wp2_with fail
            refine bodyPost_ret (v := .tuple #[.agg #[.int .i64 (dp : Int), .int .i64 (sz : Int), .slice a' L'.length cap'], .int .i64 0]) (by simp [results, Try.results13, go_sem, r0, r1, r2]) rfl (ReadOut.yes HK.out ?_)
            obtain ⟨eL, _⟩ := hE.out
            subst eL
            exact ⟨a', cap', rfl, ents_at (ownsRow_setCell_below (ownsRow_setCell_below (ownsRow_setCell_below HO7.out (show w.heap.size < tb + 1 by omega) _) (show w.heap.size < tb + 1 by omega) _) (show w.heap.size < tb + 1 by omega) _) (by omega),
              ((HB7.out.setCell (Nat.le_refl _) _).setCell (Nat.le_refl _) _).setCell (Nat.le_refl _) _⟩
        · have hem : s'.toList.isEmpty = false := by rw [isEmpty_size, decide_eq_false_iff_not]; exact he
          have hokF : Hid (ok = false) := Lib.hid (by
            cases hk : ok
            · rfl
            · have := (hok.out.1 hk).2.1
              rw [← hE.out.2.1] at this; exact absurd this he)
          clear he
          go_wp2_with fail
          exact bodyPost_ret (v := .tuple #[.agg Zt, .int .i64 3]) (by simp [results, Try.results13, go_sem, r0, r1, r2]) rfl (ReadOut.no hokF.out (ReadPost.zero rfl (((hJ.out.2.2.2.2.setCell (Nat.le_refl _) _).setCell (Nat.le_refl _) _).setCell (Nat.le_refl _) _)))
      · have hokF : Hid (ok = false) := Lib.hid (by
          cases hk : ok
          · rfl
          · have := (hok.out.1 hk).1
            rw [← hE.out.2.2] at this; exact absurd this (by decide))
        by_cases hk0 : 0 < gk
        all_goals
          go_wp2_with fail
          exact bodyPost_ret (v := .tuple #[.agg Zt, .int .i64 3]) (by simp [results, Try.results13, go_sem, r0, r1, r2]) rfl (ReadOut.no hokF.out (ReadPost.zero rfl (((hJ.out.2.2.2.2.setCell (Nat.le_refl _) _).setCell (Nat.le_refl _) _).setCell (Nat.le_refl _) _)))

set_option maxRecDepth 100000 in
set_option maxHeartbeats 2000000 in
theorem read_name (s : ByteArray) (w : World) (hs : ¬ s.size < 40) (hs2 : s.size ≤ 10000) (wv : Nat) (hw : Hid (wideTo (s.extract (s.size - 8) s.size).data.toList = wv)) (hv : Hid (sumL (s.extract 0 (s.size - 8)).data.toList = wv))
    (N8 s1 : ByteArray) (b1 : Bool) (h1 : Hid (takeP 8 (s.extract 0 (s.size - 8)) false = (N8, s1, b1))) (hnm : (N8.toList == [108, 97, 99, 101, 119, 111, 114, 107]) = false) :
    Calls Try.prog 13 #[.string s] w fun e w' => ReadPost w 0 0 [] 3 e w' := by
  have z0 : (s.extract 0 (s.size - 8)).size ≤ 10000 := by simp; omega
  have hne : ((wv : Int) != (wv : Int)) = false := by simp
  go_enter Try.func13, Try.ntmps13
  go_wp2_with fail
  go_quiet (first | (go_at_call 23; refine Calls.quiet_of_same (wide_to _ wv _ (by simp; omega) hw)) | (go_at_call 16; refine Calls.quiet_of_same (sum_to' _ wv _ (by simp; unfold maxLen; omega) hv)))
  have hI0 := Lib.hid (NI.start w nq (s.extract 0 (s.size - 8)))
  go_wp2_with fail
  refine (take_to (w.heap.size + 1) 8 _ _ false _ (Lib.hid hI0.out.1) (by omega) z0 N8 s1 b1 h1 (by rfl)).mono ?_; rintro x w1 ⟨rfl, q1, q2⟩
  have hI1 := Lib.hid (hI0.out.call q1 q2)
  clear q1 q2 hI0 h1
  have r0 : w1.cell? ⟨w.heap.size, 0, none⟩ = some (.int .i64 0) := by rw [hI1.out.2.1.cell]; rfl
  have r1 : w1.cell? ⟨w.heap.size, 1, none⟩ = some (.int .i64 0) := by rw [hI1.out.2.1.cell]; rfl
  have r2 : w1.cell? ⟨w.heap.size, 2, none⟩ = some (.slice none 0 0) := by rw [hI1.out.2.1.cell]; rfl
  have k0 := hI1.out.2.1.free 0
  have k1 := hI1.out.2.1.free 1
  have k2 := hI1.out.2.1.free 2
  go_wp2_with fail
  exact bodyPost_ret (v := .tuple #[.agg Zt, .int .i64 3]) (by simp [results, Try.results13, go_sem, r0, r1, r2]) rfl (ReadPost.zero rfl (((hI1.out.2.2.setCell (Nat.le_refl _) _).setCell (Nat.le_refl _) _).setCell (Nat.le_refl _) _))
end Go.Proofs.Ytdbdmpdfjhmfhaa
