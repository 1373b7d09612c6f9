/- Plain law of the index layer: what the two readers answer. -/
import Derived.Test.YtdbdmpdfjhmfhaaIPlain8
namespace Go.Proofs.Lx
theorem numR_of {s : ByteArray} {pre rest : List UInt8} {n m p : Nat} (h : s.data.toList = pre ++ (eight n ++ rest)) (hp : pre.length = p) (hn : n ≤ m) (h64 : n < 18446744073709551616) : numR m p s = (n : Int) := by
  have hw : win8 s p = eight n := by
    unfold win8
    rw [h, ← hp, List.drop_left' rfl, List.take_left' (eight_len n)]
  have hsz : p + 8 ≤ s.size := by
    rw [size_list, h]; simp [eight_len]; omega
  rw [numR_yes hsz (by rw [hw, wideTo_eight n h64]; exact hn), hw, wideTo_eight n h64]
/-- the reference's entry at a place -/
def entR (h : ByteArray) (p k : Nat) : En := ⟨numR 1048576 p h, numR 1048576 (p + 8) h, ((h.data.toList.getD (p + 16) 0).toNat : Nat), numR 65536 (p + 17) h, h.extract (p + 33) (p + 33 + k)⟩
def lenR (h : ByteArray) (p : Nat) : Int := numR 1048576 (p + 25) h
/-- the reference's loop -/
def refP (h : ByteArray) : Nat → Nat → List En → Option (Nat × List En)
  | 0, p, M => some (p, M)
  | k + 1, p, M => if h.size < p + 33 ∨ lenR h p < 0 ∨ h.size < p + 33 + (lenR h p).toNat then none else refP h k (p + 33 + (lenR h p).toNat) (M ++ [entR h p (lenR h p).toNat])
theorem refP_none {h : ByteArray} {k p : Nat} {M : List En} (hc : h.size < p + 33 ∨ lenR h p < 0 ∨ h.size < p + 33 + (lenR h p).toNat) : refP h (k + 1) p M = none := by rw [refP, if_pos hc]
theorem refP_step {h : ByteArray} {k p y : Nat} {M : List En} (h1 : p + 33 ≤ h.size) (h2 : lenR h p = (y : Nat)) (h3 : p + 33 + y ≤ h.size) : refP h (k + 1) p M = refP h k (p + 33 + y) (M ++ [entR h p y]) := by
  rw [refP, if_neg (by rw [h2]; simp only [Int.toNat_natCast]; omega), h2]; rfl
theorem ent_mk {s : ByteArray} {pre rest : List UInt8} {x : En} {p : Nat} (h : s.data.toList = pre ++ (enB x ++ rest)) (hp : pre.length = p) (hx : EnOk x) : lenR s p = (x.bytes.size : Nat) ∧ entR s p x.bytes.size = x ∧ p + 33 + x.bytes.size ≤ s.size := by
  obtain ⟨f, t, v, q, y⟩ := x
  obtain ⟨⟨h1, h2⟩, ⟨h3, h4⟩, ⟨h5, h6⟩, ⟨h7, h8⟩, h9⟩ := hx
  simp only at h1 h2 h3 h4 h5 h6 h7 h8 h9
  obtain ⟨f, rfl⟩ := Int.eq_ofNat_of_zero_le h1
  obtain ⟨t, rfl⟩ := Int.eq_ofNat_of_zero_le h3
  obtain ⟨v, rfl⟩ := Int.eq_ofNat_of_zero_le h5
  obtain ⟨q, rfl⟩ := Int.eq_ofNat_of_zero_le h7
  have e0 : s.data.toList = pre ++ (eight f ++ (eight t ++ ([UInt8.ofNat v] ++ (eight q ++ (eight y.size ++ (y.data.toList ++ rest)))))) := by
    rw [h]; simp [enB, eights]
  have hy : y.data.toList.length = y.size := by simp
  refine ⟨?_, ?_, ?_⟩
  · refine numR_of (pre := pre ++ eight f ++ eight t ++ [UInt8.ofNat v] ++ eight q) (rest := y.data.toList ++ rest) ?_ ?_ (by simpa using h9) (by simp only; omega)
    · rw [e0]; simp
    · simp [eight_len, hp]
  · have c0 : numR 1048576 p s = (f : Int) := numR_of e0 hp (by omega) (by omega)
    have c1 : numR 1048576 (p + 8) s = (t : Int) := numR_of (pre := pre ++ eight f) (rest := [UInt8.ofNat v] ++ (eight q ++ (eight y.size ++ (y.data.toList ++ rest)))) (by rw [e0]; simp) (by simp [eight_len, hp]) (by omega) (by omega)
    have c3 : numR 65536 (p + 17) s = (q : Int) := numR_of (pre := pre ++ eight f ++ eight t ++ [UInt8.ofNat v]) (rest := eight y.size ++ (y.data.toList ++ rest)) (by rw [e0]; simp) (by simp [eight_len, hp]) (by omega) (by omega)
    have c2 : s.data.toList.getD (p + 16) 0 = UInt8.ofNat v := by
      have e2 : s.data.toList = (pre ++ eight f ++ eight t) ++ (UInt8.ofNat v :: (eight q ++ (eight y.size ++ (y.data.toList ++ rest)))) := by rw [e0]; simp
      rw [e2, List.getD, List.getElem?_append_right (by simp [eight_len, hp]), show p + 16 - (pre ++ eight f ++ eight t).length = 0 from by simp [eight_len, hp]]; rfl
    have c4 : s.extract (p + 33) (p + 33 + y.size) = y := by
      apply ByteArray.ext; apply Array.toList_inj.1
      have e4 : s.data.toList = (pre ++ eight f ++ eight t ++ [UInt8.ofNat v] ++ eight q ++ eight y.size) ++ (y.data.toList ++ rest) := by rw [e0]; simp
      rw [extract_list, e4, List.drop_left' (by simp [eight_len, hp]), show p + 33 + y.size - (p + 33) = y.size by omega, List.take_left' hy]
    have ev : (UInt8.ofNat v).toNat = v := by simp only [UInt8.toNat_ofNat']; omega
    simp only [entR, c0, c1, c2, c3, c4, ev]
  · have := congrArg List.length e0
    rw [← size_list] at this
    simp only [List.length_append, eight_len, List.length_cons, List.length_nil, hy, hp] at this
    show p + 33 + y.size ≤ s.size
    omega
theorem refP_mk {s : ByteArray} (L M : List En) (pre : List UInt8) (h : s.data.toList = pre ++ ensB L) (hL : ∀ x ∈ L, EnOk x) (p : Nat) (hp : pre.length = p) : refP s L.length p M = some (s.size, M ++ L) := by
  induction L generalizing M pre p with
  | nil => simp only [List.length_nil, refP, List.append_nil]; rw [size_list, h, ← hp]; simp [ensB]
  | cons x L ih =>
    have e : s.data.toList = pre ++ (enB x ++ ensB L) := by rw [h]; rfl
    obtain ⟨e1, e2, e3⟩ := ent_mk e hp (hL x (by simp))
    rw [List.length_cons, refP_step (by omega) e1 e3, e2, ih (M ++ [x]) (pre ++ enB x) (by rw [e]; simp) (fun y hy => hL y (by simp [hy])) _ (by simp [enB_len, hp]; omega)]
    simp
/-! the program's reader -/
theorem prog_yes {h : ByteArray} {d z : Nat} {L : List En} (hF : FormedT d z L) (hh : h.data.toList = headB d z L) :
    ∃ s1 s2 s3 s4, takeP 8 h false = (mk nameL, s1, false) ∧ numP 4096 s1 false = (d, s2, false) ∧ numP 1048576 s2 false = (z, s3, false) ∧ numP 4096 s3 false = (L.length, s4, false) ∧ loopP L.length s4 false [] = (L, mk [], false) := by
  have e : h = mk (nameL ++ (eight d ++ (eight z ++ (eight L.length ++ ensB L)))) := mk_of (by rw [hh]; simp [headB, fixB, eights])
  obtain ⟨h1, h2, h3, h4⟩ := hF
  refine ⟨_, _, _, _, by rw [e, takeP_mk _ _ 8 rfl], numP_mk d _ _ (by omega) (by omega), numP_mk z _ _ (by omega) (by omega), numP_mk _ _ _ (by omega) (by omega), ?_⟩
  have := loopP_mk L [] [] (ok_of_formed (by omega) (by omega) h4)
  simpa using this
theorem prog_no {h N8 s1 s2 s3 s4 s5 : ByteArray} {b1 b2 b3 b4 b5 : Bool} {dp sz K : Nat} {L : List En} (h1 : takeP 8 h false = (N8, s1, b1)) (hn : N8.data.toList = nameL) (h2 : numP 4096 s1 b1 = (dp, s2, b2)) (h3 : numP 1048576 s2 b2 = (sz, s3, b3)) (h4 : numP 4096 s3 b3 = (K, s4, b4))
    (h5 : loopP K s4 b4 [] = (L, s5, b5)) (hb : b5 = false) (hz : s5.size = 0) : h.data.toList = headB dp sz L := by
  subst hb
  obtain ⟨rfl, M, rfl, hM, g5⟩ := loopP_of h5
  obtain ⟨rfl, g4, _⟩ := numP_of h4
  obtain ⟨rfl, g3, _⟩ := numP_of h3
  obtain ⟨rfl, g2, _⟩ := numP_of h2
  obtain ⟨_, g1, _⟩ := takeP_of h1
  have g6 : s5.data.toList = [] := List.eq_nil_of_length_eq_zero (by rw [← size_list]; exact hz)
  rw [g1, hn, g2, g3, g4, g5, g6]
  simp [headB, fixB, eights, hM]
/-! the reference's reader -/
theorem ref_yes {h : ByteArray} {d z : Nat} {L : List En} (hF : FormedT d z L) (hh : h.data.toList = headB d z L) :
    numR 4096 24 h = (L.length : Nat) ∧ numR 4096 8 h = (d : Nat) ∧ numR 1048576 16 h = (z : Nat) ∧ refP h L.length 32 [] = some (h.size, L) := by
  have e : h.data.toList = nameL ++ (eight d ++ (eight z ++ (eight L.length ++ ensB L))) := by rw [hh]; simp [headB, fixB, eights]
  obtain ⟨h1, h2, h3, h4⟩ := hF
  refine ⟨?_, ?_, ?_, ?_⟩
  · exact numR_of (pre := nameL ++ eight d ++ eight z) (rest := ensB L) (by rw [e]; simp) (by simp [eight_len, nameL]) (by omega) (by omega)
  · exact numR_of (pre := nameL) e rfl (by omega) (by omega)
  · exact numR_of (pre := nameL ++ eight d) (rest := eight L.length ++ ensB L) (by rw [e]; simp) (by simp [eight_len, nameL]) (by omega) (by omega)
  · have := refP_mk (s := h) L [] (nameL ++ eight d ++ eight z ++ eight L.length) (by rw [e]; simp) (ok_of_formed (by omega) (by omega) h4) 32 (by simp [eight_len, nameL])
    simpa using this
end Go.Proofs.Lx
