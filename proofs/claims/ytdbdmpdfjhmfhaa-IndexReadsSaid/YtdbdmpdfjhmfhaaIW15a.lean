/- What the walk of the reference's Read stands on. -/
import Derived.Test.YtdbdmpdfjhmfhaaIW13
import Derived.Test.YtdbdmpdfjhmfhaaIW14
import Derived.Test.YtdbdmpdfjhmfhaaIPlain9
namespace Go.Proofs.Ytdbdmpdfjhmfhaa
open Go.RowKit Go.Proofs.Lx

/-- what stands through Read's loop: the two zero tables, the table at tb with its row -/
def RI (w wr : World) (tb : Nat) (D Z : Int) (v : Value) (L : List En) : Prop :=
  BK wr w.heap.size Zt 24 ∧ BK wr (w.heap.size + 1) Zt 24 ∧ BK wr tb #[.int .i64 D, .int .i64 Z, v] 24 ∧ wr.ownsRow (tb + 1) 30 5 v L.length (flat L) ∧ w.heap.size + 1 < tb ∧ Below w.heap.size w wr
theorem RI.drewN {w wr : World} {tb : Nat} {D Z : Int} {v : Value} {L : List En} (h : RI w wr tb D Z v L) (n : Nat) : RI w (wr.drewN n) tb D Z v L :=
  ⟨h.1, h.2.1, h.2.2.1, h.2.2.2.1, h.2.2.2.2.1, below_drewN h.2.2.2.2.2 n⟩
theorem RI.start {w wi : World} (D Z : Int) (h : NB w wi) : RI w (wi.alloc (.cells #[.int .i64 D, .int .i64 Z, .slice none 0 0] 24)) wi.heap.size D Z (.slice none 0 0) [] :=
  ⟨h.1.alloc _, h.2.1.alloc _, BK.new wi _ _, World.ownsRow_nil _ _ _ _, BK.lt h.2.1, h.2.2.alloc h.2.2.size _⟩
theorem RI.cells {w wr : World} {tb : Nat} {D Z : Int} {v : Value} {L : List En} (h : RI w wr tb D Z v L) :
    (wr.cell? ⟨tb, 0, none⟩ = some (.int .i64 D) ∧ wr.cell? ⟨tb, 1, none⟩ = some (.int .i64 Z) ∧ wr.cell? ⟨tb, 2, none⟩ = some v) ∧ (wr.frozen? ⟨tb, 2, none⟩ = false) ∧
    (wr.cell? ⟨w.heap.size + 1, 0, none⟩ = some (.int .i64 0) ∧ wr.cell? ⟨w.heap.size + 1, 1, none⟩ = some (.int .i64 0) ∧ wr.cell? ⟨w.heap.size + 1, 2, none⟩ = some (.slice none 0 0)) ∧
    (wr.cell? ⟨w.heap.size, 0, none⟩ = some (.int .i64 0) ∧ wr.cell? ⟨w.heap.size, 1, none⟩ = some (.int .i64 0) ∧ wr.cell? ⟨w.heap.size, 2, none⟩ = some (.slice none 0 0)) ∧
    (wr.frozen? ⟨w.heap.size, 0, none⟩ = false ∧ wr.frozen? ⟨w.heap.size, 1, none⟩ = false ∧ wr.frozen? ⟨w.heap.size, 2, none⟩ = false) := by
  refine ⟨⟨?_, ?_, ?_⟩, h.2.2.1.free 2, zt_cells h.2.1, zt_cells h.1, zt_free h.1⟩
  all_goals rw [h.2.2.1.cell]; rfl
theorem rnum_to (s : ByteArray) (p m : Nat) (w : World) (hp : p ≤ 1000000) (hm : m ≤ 10000000) (hs : s.size ≤ 1000000) (q M : Int) (hq : q = (p : Nat)) (hM : M = (m : Nat)) (R : Int) (hR : Hid (numR m p s = R)) :
    Calls Try.prog 27 #[.string s, .int .i64 q, .int .i64 M] w fun e w' => e = .returned (.int .i64 R) ∧ w' = w := by
  subst hq hM; exact rnum_any s p m w hp hm hs R hR
theorem wrap_in (n : Int) (h : -9223372036854775808 ≤ n ∧ n ≤ 9223372036854775807) : IntKind.i64.wrap n = n := by
  rw [IntKind.wrap_i64]; omega
theorem wrap_near (p : Nat) (k : Int) (hp : p ≤ 10000) (hk : 0 ≤ k ∧ k ≤ 100) : IntKind.i64.wrap ((p : Int) + k) = (p : Int) + k := wrap_in ((p : Int) + k) ⟨by omega, by omega⟩
theorem wrap_near2 (p y : Nat) (hp : p ≤ 10000) (hy : y ≤ 10000) : IntKind.i64.wrap ((p : Int) + 33 + (y : Int)) = (p : Int) + 33 + (y : Int) := wrap_in ((p : Int) + 33 + (y : Int)) ⟨by omega, by omega⟩
theorem held_new {w : World} (o : Obj) : Hid (Below w.heap.size w (w.alloc o).drew) := Lib.hid (((Below.refl _ _).alloc (Nat.le_refl _) _).drew)
theorem held_alloc {w w' : World} (h : Hid (Below w.heap.size w w')) (o : Obj) : Hid (Below w.heap.size w (w'.alloc o)) := Lib.hid (h.out.alloc h.out.size o)
theorem held_set5 {w w' : World} (h : Hid (Below w.heap.size w w')) (u0 u1 u2 u3 u4 : Value) :
    Hid (Below w.heap.size w (((((w'.setCell ⟨w.heap.size, 0, none⟩ u0).setCell ⟨w.heap.size, 1, none⟩ u1).setCell ⟨w.heap.size, 2, none⟩ u2).setCell ⟨w.heap.size, 3, none⟩ u3).setCell ⟨w.heap.size, 4, none⟩ u4)) :=
  Lib.hid (((((h.out.setCell (Nat.le_refl _) _).setCell (Nat.le_refl _) _).setCell (Nat.le_refl _) _).setCell (Nat.le_refl _) _).setCell (Nat.le_refl _) _)
theorem RI.below {w w1 w2 : World} {tb : Nat} {D Z : Int} {v : Value} {L : List En} (h : RI w w1 tb D Z v L) (hb : Below w1.heap.size w1 w2) : RI w w2 tb D Z v L :=
  ⟨h.1.below hb, h.2.1.below hb, h.2.2.1.below hb, own_below h.2.2.2.1 hb, h.2.2.2.2.1, h.2.2.2.2.2.trans (hb.mono h.2.2.2.2.2.size)⟩
/-- the reference's number at whatever numbers -/
def numI (M q : Int) (s : ByteArray) : Int := numR M.toNat q.toNat s
theorem rnum_int (s : ByteArray) (q M : Int) (w : World) (hs : s.size ≤ 1000000) (hq : 0 ≤ q) (hq1 : q ≤ 1000000) (hM : 0 ≤ M) (hM1 : M ≤ 10000000) :
    Calls Try.prog 27 #[.string s, .int .i64 q, .int .i64 M] w fun e w' => e = .returned (.int .i64 (numI M q s)) ∧ w' = w :=
  rnum_to s q.toNat M.toNat w (by omega) (by omega) hs q M (by omega) (by omega) _ (Lib.hid rfl)

/-- an entry's block -/
def xCells (x : En) : Array Value := #[.int .i64 x.frm, .int .i64 x.to, .int .i64 x.ver, .int .i64 x.at_, .string x.bytes]
theorem ent_block (w : World) (h : ByteArray) (p y : Nat) (hlt : p + 16 < h.size) (pf : ((p : Int) + 16).toNat < h.size) :
    Hid (BK (w.alloc (.cells #[.int .i64 (numI 1048576 (p : Int) h), .int .i64 (numI 1048576 ((p : Int) + 8) h), .int .i64 (IntKind.i64.wrap (h[((p : Int) + 16).toNat]'pf).toNat), .int .i64 (numI 65536 ((p : Int) + 17) h), .string (h.extract ((p : Int) + 33).toNat ((p : Int) + 33 + (y : Int)).toNat)] 30)).drew w.heap.size (xCells (entR h p y)) 30) := Lib.hid (by
  have e3 : IntKind.i64.wrap (h[((p : Int) + 16).toNat]'pf).toNat = (((h.data.toList.getD (p + 16) 0).toNat : Nat) : Int) := by
    have e : ((p : Int) + 16).toNat = p + 16 := by omega
    simp only [e]
    have hb := (h[p + 16]'hlt).toNat_lt
    rw [wrap_in _ ⟨by omega, by omega⟩]
    have : h.data.toList.getD (p + 16) 0 = h[p + 16]'hlt := by
      rw [List.getD, List.getElem?_eq_getElem (by simpa using hlt)]; simp; rfl
    rw [this]
  have e4 : ((p : Int) + 33).toNat = p + 33 := by omega
  have e5 : ((p : Int) + 33 + (y : Int)).toNat = p + 33 + y := by omega
  rw [e3, e4, e5]
  exact BK.new w _ _)
theorem x_cells {w5 : World} {g : Nat} {x : En} (h : BK w5 g (xCells x) 30) : w5.cell? ⟨g, 0, none⟩ = some (.int .i64 x.frm) ∧ w5.cell? ⟨g, 1, none⟩ = some (.int .i64 x.to) ∧ w5.cell? ⟨g, 2, none⟩ = some (.int .i64 x.ver) ∧ w5.cell? ⟨g, 3, none⟩ = some (.int .i64 x.at_) ∧ w5.cell? ⟨g, 4, none⟩ = some (.string x.bytes) := by
  refine ⟨?_, ?_, ?_, ?_, ?_⟩
  all_goals rw [h.cell]; rfl
theorem RI.more {w w5 w6 : World} {tb : Nat} {D Z : Int} {v v6 : Value} {L : List En} {x : En} {o : Obj} (h : RI w w5 tb D Z v L)
    (ho : w6.ownsRow (tb + 1) 30 5 v6 (L.length + 1) (flat L ++ flat1 x)) (hg6 : (w5.alloc o).grownBy w6 v.ownBlock) :
    BK w6 tb #[.int .i64 D, .int .i64 Z, v] 24 ∧ RI w (w6.setCell ⟨tb, 2, none⟩ v6) tb D Z v6 (L ++ [x]) := by
  have hrow : ∀ k, v.ownBlock = some k → tb + 1 ≤ k := fun k hk => (h.2.2.2.1.lt k hk).1
  have htb := h.2.2.1.lt
  have hw := h.2.2.2.2.1
  have keep : ∀ q t C, q < tb + 1 → BK w5 q C t → BK w6 q C t := by
    intro q t C hq hb
    have h1 := BK.lt hb
    have h2 := BK.alloc hb o
    unfold BK at *
    rw [hg6.block q (by simp; omega) (fun e => by have := hrow q e.symm; omega)]
    exact h2
  have hb6 := keep tb 24 _ (by omega) h.2.2.1
  have hbel : Below w.heap.size w w6 := (h.2.2.2.2.2.alloc h.2.2.2.2.2.size o).grown hg6 (by have := h.2.2.2.2.2.size; simp; omega) (fun k hk => by have := hrow k hk; omega)
  refine ⟨hb6, BK.other (keep w.heap.size 24 _ (by omega) h.1) _ _ _ (by omega), BK.other (keep (w.heap.size + 1) 24 _ (by omega) h.2.1) _ _ _ (by omega), ?_, ?_, hw, hbel.setCell (p := ⟨tb, 2, none⟩) (by show w.heap.size ≤ tb; omega) _⟩
  · have := BK.set hb6 2 v6
    simpa using this
  · have e : flat (L ++ [x]) = flat L ++ flat1 x := by simp [flat_append, flat]
    rw [e, List.length_append]
    exact ho.kept (set_grown w6 tb 2 v6) (by
      cases hv : v6.ownBlock with
      | none => exact .inl rfl
      | some k => exact .inr (fun q => by have := (ho.lt k hv).1; injection q with q; omega))

theorem lens_ge (L : List En) : 33 * L.length ≤ lens L := by
  induction L with
  | nil => simp [lens]
  | cons x L ih => simp only [lens, List.length_cons]; omega
theorem bool_of (p : Prop) : ∃ R : Bool, R = true ↔ p := by
  by_cases h : p
  · exact ⟨true, by simp [h]⟩
  · exact ⟨false, by simp [h]⟩
theorem cmp_yes {S h : ByteArray} (e : S.data.toList = h.data.toList) : (S.toList == h.toList) = true := by
  rw [ByteArray.toList_eq, ByteArray.toList_eq, e]; simp
theorem cmp_no {S h : ByteArray} (e : ¬ S.data.toList = h.data.toList) : (S.toList == h.toList) = false := by
  rw [beq_eq_false_iff_ne, ByteArray.toList_eq, ByteArray.toList_eq]; exact e
theorem head_to (d z : Nat) (a : Option Addr) (len cap : Nat) (L : List En) (w : World) (hd : d ≤ 4096) (hz : z ≤ 1048576) (hl : len ≤ 1000) (hF : Hid (FormedT d z L)) (hsz : Hid (lens L ≤ 100000)) (hE : Ents w a len L) (S : ByteArray) (hS : Hid (mk (headB d z L) = S)) :
    Calls Try.prog 28 #[.agg #[.int .i64 (d : Int), .int .i64 (z : Int), .slice a len cap]] w fun e w' => e = .returned (.string S) ∧ Below w.heap.size w w' := by
  rw [← hS.out]; exact head_any d z a len cap L w hd hz hl hF hsz hE
theorem name_list {N8 : ByteArray} (h : N8.data.toList = nameL) : (N8.toList == [108, 97, 99, 101, 119, 111, 114, 107]) = true := by
  rw [ByteArray.toList_eq, h]; rfl
theorem name_of {N8 : ByteArray} (h : (N8.toList == [108, 97, 99, 101, 119, 111, 114, 107]) = true) : N8.data.toList = nameL := by
  rw [ByteArray.toList_eq, beq_iff_eq] at h; exact h
end Go.Proofs.Ytdbdmpdfjhmfhaa
