/- The walk of the reference's Head. -/
import Derived.Test.YtdbdmpdfjhmfhaaIW11
import Derived.Test.YtdbdmpdfjhmfhaaIW12
import Derived.Deep.RegionHeld3
namespace Go.Proofs.Ytdbdmpdfjhmfhaa
open Go.RowKit Go.Proofs.Lx
theorem eight_to (n : Nat) (S : ByteArray) (w : World) (h : Hid (⟨(eight n).toArray⟩ = S)) :
    Calls Try.prog 11 #[.int .u64 (n : Nat)] w fun e w' => e = .returned (.string S) ∧ Below w.heap.size w w' := by
  rw [← h.out]; exact eight_any n w

theorem TB.drew {w w' : World} {d z : Int} {a : Option Addr} {len cap : Nat} {L : List En} (h : TB w w' d z a len cap L) : TB w w'.drew d z a len cap L := h.next ((Below.refl _ _).drew)
theorem tb_of {w w' : World} {d z : Int} {a : Option Addr} {len cap : Nat} {L : List En} (h : Hid (TB w w' d z a len cap L)) :
    w'.cell? ⟨w.heap.size, 0, none⟩ = some (.int .i64 d) ∧ w'.cell? ⟨w.heap.size, 1, none⟩ = some (.int .i64 z) ∧ w'.cell? ⟨w.heap.size, 2, none⟩ = some (.slice a len cap) ∧ Hid (TB w w' d z a len cap L) := ⟨h.out.1, h.out.2.1, h.out.2.2.1, h⟩
theorem eight_calls (n : Nat) (w : World) :
    Calls Try.prog 11 #[.int .u64 (n : Nat)] w fun e w' => ∃ S : ByteArray, e = .returned (.string S) ∧ S.size = 8 ∧ Hid (S.data.toList = eight n) ∧ Below w.heap.size w w' :=
  (eight_any n w).mono fun _ _ h => ⟨_, h.1, by have := eight_len n; simpa [ByteArray.size] using this, Lib.hid rfl, h.2⟩
theorem eight_ex (n : Nat) : ∃ S : ByteArray, S.size = 8 ∧ Hid (⟨(eight n).toArray⟩ = S) := ⟨⟨(eight n).toArray⟩, by have := eight_len n; simpa [ByteArray.size] using this, Lib.hid rfl⟩
/-- what a region of Head's loop holds: the entry's own block, and the table -/
def XS (w w' : World) (G : Nat) (f t v q : Int) (y : ByteArray) (d z : Int) (a : Option Addr) (len cap : Nat) (L : List En) : Prop :=
  BK w' G #[.int .i64 f, .int .i64 t, .int .i64 v, .int .i64 q, .string y] 30 ∧ TB w w' d z a len cap L
theorem XS.below {w w1 w2 : World} {G : Nat} {f t v q : Int} {y : ByteArray} {d z : Int} {a : Option Addr} {len cap : Nat} {L : List En} (h : XS w w1 G f t v q y d z a len cap L) (hb : Below w1.heap.size w1 w2) : XS w w2 G f t v q y d z a len cap L :=
  ⟨by unfold XS BK at *; rw [hb.block G (BK.lt h.1)]; exact h.1, h.2.next hb⟩
theorem XS.cells {w w' : World} {G : Nat} {f t v q : Int} {y : ByteArray} {d z : Int} {a : Option Addr} {len cap : Nat} {L : List En} (h : XS w w' G f t v q y d z a len cap L) :
    w'.cell? ⟨G, 0, none⟩ = some (.int .i64 f) ∧ w'.cell? ⟨G, 1, none⟩ = some (.int .i64 t) ∧ w'.cell? ⟨G, 2, none⟩ = some (.int .i64 v) ∧ w'.cell? ⟨G, 3, none⟩ = some (.int .i64 q) ∧ w'.cell? ⟨G, 4, none⟩ = some (.string y) ∧ Hid (XS w w' G f t v q y d z a len cap L) := by
  refine ⟨?_, ?_, ?_, ?_, ?_, Lib.hid h⟩
  all_goals rw [h.1.cell]; rfl
theorem xs_call {w w1 w2 : World} {G : Nat} {f t v q : Int} {y : ByteArray} {d z : Int} {a : Option Addr} {len cap : Nat} {L : List En} {p0 p1 p2 p3 p4 : Prop} (h : p0 ∧ p1 ∧ p2 ∧ p3 ∧ p4 ∧ Hid (XS w w1 G f t v q y d z a len cap L)) (hb : Below w1.heap.size w1 w2) : Hid (XS w w2 G f t v q y d z a len cap L) :=
  Lib.hid (h.2.2.2.2.2.out.below hb)
theorem xs_alloc {w w1 : World} {G : Nat} {f t v q : Int} {y : ByteArray} {d z : Int} {a : Option Addr} {len cap : Nat} {L : List En} {p0 p1 p2 p3 p4 : Prop} (h : p0 ∧ p1 ∧ p2 ∧ p3 ∧ p4 ∧ Hid (XS w w1 G f t v q y d z a len cap L)) (o : Obj) :
    (w1.alloc o).cell? ⟨G, 0, none⟩ = some (.int .i64 f) ∧ (w1.alloc o).cell? ⟨G, 1, none⟩ = some (.int .i64 t) ∧ (w1.alloc o).cell? ⟨G, 2, none⟩ = some (.int .i64 v) ∧ (w1.alloc o).cell? ⟨G, 3, none⟩ = some (.int .i64 q) ∧ (w1.alloc o).cell? ⟨G, 4, none⟩ = some (.string y) ∧ Hid (XS w (w1.alloc o) G f t v q y d z a len cap L) :=
  (h.2.2.2.2.2.out.below (below1 w1 o)).cells
theorem ret_str {a b : ByteArray} (h : a = b) : Ending.returned (.string a) = .returned (.string b) := by rw [h]
theorem new_cell {W w5 : World} {x : Value} {t : Nat} (hb : Below (W.alloc (.cells #[x] t)).heap.size (W.alloc (.cells #[x] t)) w5) : w5.cell? ⟨W.heap.size, 0, none⟩ = some x := by
  rw [hb.cell (p := ⟨W.heap.size, 0, none⟩) (by simp), World.cell?_alloc_at _ _ _ _ rfl]; rfl
theorem new_cell2 {W w5 : World} {x : Value} {t : Nat} {o : Obj} (hb : Below ((W.alloc o).alloc (.cells #[x] t)).drew.heap.size ((W.alloc o).alloc (.cells #[x] t)).drew w5) : w5.cell? ⟨W.heap.size + 1, 0, none⟩ = some x := by
  have h : (W.alloc o).heap.size = W.heap.size + 1 := by simp
  have := new_cell (W := W.alloc o) (x := x) (t := t) (w5 := w5) ((((Below.refl _ _).drew).trans hb))
  rw [h] at this; exact this
theorem old_cell {W w5 : World} {u : Int} {g : Nat} (hb : Below W.heap.size W w5) (h : W.cell? ⟨g, 0, none⟩ = some (.int .u8 u)) : w5.cell? ⟨g, 0, none⟩ = some (.int .u8 u) := by
  rw [hb.cell (p := ⟨g, 0, none⟩) (World.block_lt_of_cell? _ _ h)]; exact h
theorem xs_tb {w w1 : World} {G : Nat} {f t v q : Int} {y : ByteArray} {d z : Int} {a : Option Addr} {len cap : Nat} {L : List En} {p0 p1 p2 p3 p4 : Prop} (h : p0 ∧ p1 ∧ p2 ∧ p3 ∧ p4 ∧ Hid (XS w w1 G f t v q y d z a len cap L)) : Hid (TB w w1 d z a len cap L) := Lib.hid h.2.2.2.2.2.out.2
theorem head_size {S A B V C D y : ByteArray} (hA : A.size = 8) (hB : B.size = 8) (hV : V.size = 1) (hC : C.size = 8) (hD : D.size = 8) (h : S.size + (33 + y.size) ≤ 100032) : (S ++ (A ++ B ++ V ++ C ++ D ++ y)).size ≤ 100032 := by
  simp only [ByteArray.size_append, hA, hB, hV, hC, hD]; omega
theorem head_step {S A B V C D y : ByteArray} {d z len k f t v q : Nat} {L : List En} (hS : Hid (S.data.toList = fixB d z len ++ ensB (L.take k))) (hk : Hid (L[k]? = some ⟨(f : Int), (t : Int), (v : Int), (q : Int), y⟩))
    (hA : Hid (A.data.toList = eight f)) (hB : Hid (B.data.toList = eight t)) (hV : Hid (V.data.toList = [UInt8.ofNat v])) (hC : Hid (C.data.toList = eight q)) (hD : Hid (D.data.toList = eight y.size)) :
    Hid ((S ++ (A ++ B ++ V ++ C ++ D ++ y)).data.toList = fixB d z len ++ ensB (L.take (k + 1))) := Lib.hid (by
  rw [ensB_snoc L k _ hk.out, ← List.append_assoc, ← hS.out]
  simp [enB, eights, hA.out, hB.out, hV.out, hC.out, hD.out])
theorem lens_full (L : List En) (k : Nat) (x : En) (h : L[k]? = some x) : lens (L.take k) + (33 + x.bytes.size) ≤ lens L := by
  have h1 := lens_snoc L k x h
  have h2 := lens_append (L.take (k + 1)) (L.drop (k + 1))
  rw [List.take_append_drop] at h2
  omega
theorem xs_start {w wr : World} {f t v q : Int} {y : ByteArray} {d z : Int} {a : Option Addr} {len cap : Nat} {L : List En} (h : TB w wr d z a len cap L) : XS w (wr.alloc (.cells #[.int .i64 f, .int .i64 t, .int .i64 v, .int .i64 q, .string y] 30)).drew wr.heap.size f t v q y d z a len cap L :=
  XS.below (w1 := wr.alloc (.cells #[.int .i64 f, .int .i64 t, .int .i64 v, .int .i64 q, .string y] 30)) ⟨BK.new _ _ _, h.next (below1 _ _)⟩ ((Below.refl _ _).drew)
theorem one_byte (v : Nat) : ∃ V : ByteArray, V.size = 1 ∧ Hid (V.data.toList = [UInt8.ofNat v]) ∧ ∀ (w' : World) (g : Nat), v < 256 → w'.cell? ⟨g, 0, none⟩ = some (.int .u8 (v : Int)) → (convert 43 9 (.slice (some ⟨g, 0, none⟩) 1 1)).run Try.prog w' = .ok (.string V) w' :=
  ⟨⟨#[UInt8.ofNat v]⟩, rfl, Lib.hid rfl, fun w' g hv hc => run_convert_bytes_back (P := Try.prog) w' 43 9 5 ⟨g, 0, none⟩ 1 [UInt8.ofNat v] Try.underlying43 Try.underlying5 Try.underlying9 (fun j hj => by
    have : j = 0 := by simpa using hj
    subst this
    rw [Addr.add_lit, hc]
    have e : (UInt8.ofNat v).toNat = v := by simp only [UInt8.toNat_ofNat']; omega
    simp [e])⟩
/-- the conversion of the one byte, under a name: it is carried out where it comes up, and not tried first -/
@[reducible] def opByte : Op := .convert 43 9 (.tmp 49)
theorem opByte_eq : Op.convert 43 9 (.tmp 49) = opByte := rfl
set_option maxRecDepth 100000 in
set_option maxHeartbeats 4000000 in
theorem head_any (d z : Nat) (a : Option Addr) (len cap : Nat) (L : List En) (w : World) (hd : d ≤ 4096) (hz : z ≤ 1048576) (hl : len ≤ 1000) (hF : Hid (FormedT d z L)) (hsz : Hid (lens L ≤ 100000)) (hE : Ents w a len L) :
    Calls Try.prog 28 #[.agg #[.int .i64 (d : Int), .int .i64 (z : Int), .slice a len cap]] w fun e w' =>
      e = .returned (.string ⟨(headB d z L).toArray⟩) ∧ Below w.heap.size w w' := by
  have hlen := hE.2.1
  have hll : Hid (L.length = len) := Lib.hid hE.1
  have HT := Lib.hid (TB.start (deep := (d : Int)) (size := (z : Int)) (cap := cap) hE)
  clear hE
  have u1 := wrapU d (by omega)
  have u2 := wrapU z (by omega)
  have u3 := wrapU len (by omega)
  go_enter Try.func28, Try.ntmps28
  go_wp2_with fail
  have HTd := Lib.hid HT.out.drew
  go_region_held3 (fun w' => w'.cell? ⟨w.heap.size, 0, none⟩ = some (.int .i64 (d : Int)) ∧ w'.cell? ⟨w.heap.size, 1, none⟩ = some (.int .i64 (z : Int)) ∧ w'.cell? ⟨w.heap.size, 2, none⟩ = some (.slice a len cap) ∧ Hid (TB w w' d z a len cap L))
    (first | exact tb_of (by assumption) | exact tb_of HTd)
    (first | (go_at_call 11; refine (eight_calls _ _).mono ?_; rintro e w5 ⟨S5, rfl, z5, h5, hb⟩; have HX := Lib.hid (TB.next (Hid.out (by assumption)) hb); clear hb))
  rename_i w5a A zA hA _ w5b B zB hB _ _
  obtain ⟨T, hT⟩ : ∃ T : ByteArray, T = (⟨#[108, 97, 99, 101, 119, 111, 114, 107]⟩ : ByteArray) ++ A ++ B ++ S5 := ⟨_, rfl⟩
  rw [← hT]
  have zT : T.size = 32 := by rw [hT]; simp [zA, zB, z5]; rfl
  have HTL : Hid (T.data.toList = fixB d z len ++ ensB (L.take 0)) := Lib.hid (by rw [hT]; simp [fixB, ensB, nameL, eights, hA.out, hB.out, h5.out])
  clear hT
  go_wp2_with fail
  go_loopg [3, 4] len (fun g v3 v4 wr => ∃ (k : Nat) (S : ByteArray), k ≤ len ∧ g = len - k ∧ v4 = .int .i64 k ∧ v3 = .string S ∧ S.size ≤ 100032 ∧ Hid (S.data.toList = fixB d z len ++ ensB (L.take k)) ∧ Hid (TB w wr d z a len cap L))
  case atStart => exact ⟨0, T, Nat.zero_le _, rfl, rfl, rfl, by omega, HTL, HX⟩
  case round =>
    obtain ⟨k, S, hk, rfl, rfl, rfl, hS, HSL, HTr⟩ := hrel
    obtain ⟨c0, c1, c2, cs, hE, hBel⟩ := HTr.out
    by_cases hlt : k < len
    · have hdk : decide ((k : Int) < (len : Int)) = true := by rw [decide_eq_true_eq]; omega
      obtain ⟨b, off, rfl, hb, hx⟩ := hE.2.2 (by omega)
      obtain ⟨x, hxk⟩ : ∃ x, L[k]? = some x := ⟨_, List.getElem?_eq_getElem (by rw [hll.out]; exact hlt)⟩
      obtain ⟨⟨x1, x2⟩, ⟨x3, x4⟩, x5, x6⟩ := formed_elem hF.out.2.2.2 k x hxk
      obtain ⟨xf, xt, xv, xa, xb⟩ := x
      simp only at x1 x2 x3 x4 x5 x6
      obtain ⟨f, rfl⟩ := Int.eq_ofNat_of_zero_le x1
      obtain ⟨t, rfl⟩ := Int.eq_ofNat_of_zero_le (show 0 ≤ xt by omega)
      obtain ⟨v, rfl⟩ := Int.eq_ofNat_of_zero_le (show 0 ≤ xv by omega)
      obtain ⟨q, rfl⟩ := Int.eq_ofNat_of_zero_le x5
      obtain ⟨q0, q1, q2, q3, q4⟩ := hx k _ hxk
      simp only at q0 q1 q2 q3 q4
      have hfull := Lib.hid (lens_full L k _ hxk)
      have hxs : xb.size ≤ 100000 ∧ S.size + (33 + xb.size) ≤ 100032 := by
        have h1 := hfull.out
        have h2 := hsz.out
        have h3 := congrArg List.length HSL.out
        simp only [List.length_append, fixB_len, ensB_len, Array.length_toList] at h3
        have h4 : S.data.size = S.size := rfl
        simp only at h1
        omega
      obtain ⟨hxs, hSs⟩ := hxs
      have HK := Lib.hid hxk
      have y1 := wrapU f (by omega)
      have y2 := wrapU t (by omega)
      have y3 := wrapU q (by omega)
      have y4 := wrapU xb.size (by omega)
      have y5 : IntKind.u8.wrap (v : Int) = (v : Int) := by rw [IntKind.wrap_u8]; omega
      obtain ⟨V, zV, hV, hcv⟩ := one_byte v
      have hcv2 := fun w' g => hcv w' g (by omega)
      have HXd := Lib.hid (xs_start (f := f) (t := t) (v := v) (q := q) (y := xb) HTr.out)
      have s1 : ¬ 9223372036854775807 < 33 + xb.size := by omega
      have s2 : ¬ 9223372036854775807 < S.size + (33 + xb.size) := by omega
      clear hcv hx hxk c0 c1 cs hE hBel
      go_wp2_with fail
      clear q0 q1 q2 q3 q4
      rw [opByte_eq]
      go_region_held3 (fun w' => w'.cell? ⟨wr.heap.size, 0, none⟩ = some (.int .i64 (f : Int)) ∧ w'.cell? ⟨wr.heap.size, 1, none⟩ = some (.int .i64 (t : Int)) ∧ w'.cell? ⟨wr.heap.size, 2, none⟩ = some (.int .i64 (v : Int)) ∧ w'.cell? ⟨wr.heap.size, 3, none⟩ = some (.int .i64 (q : Int)) ∧ w'.cell? ⟨wr.heap.size, 4, none⟩ = some (.string xb) ∧ Hid (XS w w' wr.heap.size f t v q xb d z (some ⟨b, off, none⟩) len cap L))
        (first | assumption | exact XS.cells (Hid.out (by assumption)) | exact xs_alloc (by assumption) _)
        (first | (go_at_call 11; refine (eight_calls _ _).mono ?_; rintro e w5 ⟨S5, rfl, z5, h5, hb⟩; have HX := xs_call (by assumption) hb; (try have hnew := new_cell hb); (try have hnew := new_cell2 hb); (try have hold := old_cell hb (by assumption)); clear hb))
      all_goals
        go_wp2_with fail
        go_roundg (len - (k + 1))
        case measure => go_light; omega
        case rel => go_light; exact ⟨k + 1, _, by omega, rfl, by go_num, rfl, head_size (by assumption) (by assumption) zV (by assumption) (by assumption) hSs, head_step HSL HK (by assumption) (by assumption) hV (by assumption) (by assumption), xs_tb (by assumption)⟩
    · have hdk : decide ((k : Int) < (len : Int)) = false := by rw [decide_eq_false_iff_not]; omega
      have hke : k = len := by omega
      have HR : Hid (S = ⟨(headB d z L).toArray⟩) := Lib.hid (by
        have := HSL.out
        rw [List.take_of_length_le (by have := hll.out; omega)] at this
        clear hke
        apply ByteArray.ext; apply Array.toList_inj.1
        rw [this]; simp [headB, hll.out])
      clear HSL
      go_wp2_with fail
      go_ret
      exact ⟨ret_str HR.out, HTr.out.2.2.2.2.2⟩
end Go.Proofs.Ytdbdmpdfjhmfhaa
