/- Plain law of the index layer: a table's bytes read back, by the program's reader; what is read is what was written. -/
import Derived.Test.YtdbdmpdfjhmfhaaIPlain7
namespace Go.Proofs.Lx
def mk (l : List UInt8) : ByteArray := ⟨l.toArray⟩
theorem mk_list (l : List UInt8) : (mk l).data.toList = l := rfl
theorem mk_size (l : List UInt8) : (mk l).size = l.length := by simp [mk, ByteArray.size]
theorem mk_of {s : ByteArray} {l : List UInt8} (h : s.data.toList = l) : s = mk l := by
  apply ByteArray.ext; apply Array.toList_inj.1; exact h
theorem size_list (s : ByteArray) : s.size = s.data.toList.length := by simp
theorem extract_list (s : ByteArray) (a b : Nat) : (s.extract a b).data.toList = (s.data.toList.drop a).take (b - a) := by
  simp [ByteArray.data_extract, Array.toList_extract, List.extract_eq_take_drop]
theorem takeP_mk (a b : List UInt8) (n : Nat) (h : a.length = n) : takeP n (mk (a ++ b)) false = (mk a, mk b, false) := by
  subst h
  unfold takeP
  rw [if_neg (by rw [mk_size]; simp)]
  refine Prod.ext (mk_of ?_) (Prod.ext (mk_of ?_) rfl)
  · rw [extract_list, mk_list]; simp
  · show ((mk (a ++ b)).extract a.length (mk (a ++ b)).size).data.toList = b
    rw [extract_list, mk_list, mk_size]; simp
theorem numP_mk (n m : Nat) (b : List UInt8) (h : n ≤ m) (h64 : n < 18446744073709551616) : numP m (mk (eight n ++ b)) false = (n, mk b, false) := by
  unfold numP
  rw [takeP_mk _ _ 8 (eight_len n)]
  simp only [mk_list, wideTo_eight n h64]
  rw [if_neg (by omega)]
/-- an entry that is formed as to its numbers -/
def EnOk (x : En) : Prop := (0 ≤ x.frm ∧ x.frm ≤ 1048576) ∧ (0 ≤ x.to ∧ x.to ≤ 1048576) ∧ (0 ≤ x.ver ∧ x.ver ≤ 255) ∧ (0 ≤ x.at_ ∧ x.at_ ≤ 65536) ∧ x.bytes.size ≤ 1048576
theorem entP_mk (x : En) (b : List UInt8) (h : EnOk x) : entP (mk (enB x ++ b)) false = (x, mk b, false) := by
  obtain ⟨f, t, v, q, y⟩ := x
  obtain ⟨⟨h1, h2⟩, ⟨h3, h4⟩, ⟨h5, h6⟩, ⟨h7, h8⟩, h9⟩ := h
  simp only at h1 h2 h3 h4 h5 h6 h7 h8 h9
  obtain ⟨f, rfl⟩ := Int.eq_ofNat_of_zero_le h1
  obtain ⟨t, rfl⟩ := Int.eq_ofNat_of_zero_le h3
  obtain ⟨v, rfl⟩ := Int.eq_ofNat_of_zero_le h5
  obtain ⟨q, rfl⟩ := Int.eq_ofNat_of_zero_le h7
  have e : enB ⟨f, t, v, q, y⟩ ++ b = eight f ++ (eight t ++ ([UInt8.ofNat v] ++ (eight q ++ (eight y.size ++ (y.data.toList ++ b))))) := by
    simp [enB, eights]
  have ey : y = mk y.data.toList := rfl
  have ev : wideTo [UInt8.ofNat v] = v := by simp [wideTo]; omega
  rw [e]
  simp only [entP]
  rw [numP_mk f _ _ (by omega) (by omega)]
  simp only
  rw [numP_mk t _ _ (by omega) (by omega)]
  simp only
  rw [takeP_mk _ _ 1 rfl]
  simp only
  rw [numP_mk q _ _ (by omega) (by omega)]
  simp only
  rw [numP_mk y.size _ _ (by omega) (by omega)]
  simp only
  rw [takeP_mk _ _ y.size (by simp)]
  simp only [mk_list, ev]
  rw [← ey]
theorem loopP_mk (L : List En) (M : List En) (b : List UInt8) (h : ∀ x ∈ L, EnOk x) : loopP L.length (mk (ensB L ++ b)) false M = (M ++ L, mk b, false) := by
  induction L generalizing M with
  | nil => simp [loopP, ensB]
  | cons x L ih =>
    have e : ensB (x :: L) ++ b = enB x ++ (ensB L ++ b) := by simp [ensB]
    rw [e, List.length_cons, loopP_step _ _ _ _ _ _ (entP_mk x _ (h x (by simp))), ih _ (fun y hy => h y (by simp [hy]))]
    simp
theorem ok_of_formed {f size : Int} {L : List En} (hf : 0 ≤ f) (hs : size ≤ 1048576) (h : FormedGo f size L) : ∀ x ∈ L, EnOk x := by
  induction L generalizing f with
  | nil => intro x hx; simp at hx
  | cons y L ih =>
    obtain ⟨h1, h2⟩ := h
    unfold EnBad at h1
    intro x hx
    rcases List.mem_cons.1 hx with rfl | hx
    · unfold EnOk; omega
    · exact ih (by omega) h2 x hx
/-! what was read -/
theorem takeP_of {n : Nat} {s t s' : ByteArray} {bad : Bool} (h : takeP n s bad = (t, s', false)) : bad = false ∧ s.data.toList = t.data.toList ++ s'.data.toList ∧ t.size = n := by
  unfold takeP at h
  split at h
  · simp at h
  · rename_i hc
    simp only [Prod.mk.injEq] at h
    obtain ⟨rfl, rfl, _⟩ := h
    have hb : bad = false := by cases bad <;> simp_all
    have hn : n ≤ s.size := by
      have : ¬ s.size < n := fun h => hc (.inr h)
      omega
    refine ⟨hb, ?_, by simp; omega⟩
    rw [extract_list, extract_list, Nat.sub_zero, List.drop_zero]
    rw [List.take_of_length_le (l := List.drop n _) (by simp), List.take_append_drop]
theorem numP_of {m N : Nat} {s s' : ByteArray} {bad : Bool} (h : numP m s bad = (N, s', false)) : bad = false ∧ s.data.toList = eight N ++ s'.data.toList ∧ N ≤ m := by
  unfold numP at h
  split at h
  · simp at h
  · rename_i hc
    simp only [Prod.mk.injEq] at h
    obtain ⟨rfl, h2⟩ := h
    have ht : takeP 8 s bad = ((takeP 8 s bad).1, s', false) := Prod.ext rfl h2
    obtain ⟨h1, h3, h4⟩ := takeP_of ht
    refine ⟨h1, ?_, by omega⟩
    rw [h3, eight_wideTo _ (by rw [← size_list]; exact h4)]
theorem entP_of {x : En} {s s' : ByteArray} {bad : Bool} (h : entP s bad = (x, s', false)) : bad = false ∧ s.data.toList = enB x ++ s'.data.toList := by
  obtain ⟨a, s1, b1, h1⟩ : ∃ a s1 b1, numP 1048576 s bad = (a, s1, b1) := ⟨_, _, _, rfl⟩
  obtain ⟨b, s2, b2, h2⟩ : ∃ a s2 b2, numP 1048576 s1 b1 = (a, s2, b2) := ⟨_, _, _, rfl⟩
  obtain ⟨c, s3, b3, h3⟩ : ∃ a s3 b3, takeP 1 s2 b2 = (a, s3, b3) := ⟨_, _, _, rfl⟩
  obtain ⟨d, s4, b4, h4⟩ : ∃ a s4 b4, numP 65536 s3 b3 = (a, s4, b4) := ⟨_, _, _, rfl⟩
  obtain ⟨e, s5, b5, h5⟩ : ∃ a s5 b5, numP 1048576 s4 b4 = (a, s5, b5) := ⟨_, _, _, rfl⟩
  obtain ⟨f, s6, b6, h6⟩ : ∃ a s6 b6, takeP e s5 b5 = (a, s6, b6) := ⟨_, _, _, rfl⟩
  simp only [entP, h1, h2, h3, h4, h5, h6, Prod.mk.injEq] at h
  obtain ⟨rfl, rfl, rfl⟩ := h
  obtain ⟨rfl, g6, z6⟩ := takeP_of h6
  obtain ⟨rfl, g5, _⟩ := numP_of h5
  obtain ⟨rfl, g4, _⟩ := numP_of h4
  obtain ⟨rfl, g3, z3⟩ := takeP_of h3
  obtain ⟨rfl, g2, _⟩ := numP_of h2
  obtain ⟨rfl, g1, _⟩ := numP_of h1
  refine ⟨rfl, ?_⟩
  obtain ⟨u, hu⟩ : ∃ u, c.data.toList = [u] := by
    have : c.data.toList.length = 1 := by rw [← size_list]; exact z3
    match hc : c.data.toList, this with
    | [u], _ => exact ⟨u, rfl⟩
  have hw : UInt8.ofNat (wideTo [u]) = u := by simp [wideTo]
  simp only [enB, eights, hu]
  rw [g1, g2, g3, g4, g5, g6, hu]
  have e1 : ((a : Int).toNat) = a := rfl
  simp [hw, z6]
theorem loopP_of {k : Nat} {s s' : ByteArray} {bad : Bool} {L L' : List En} (h : loopP k s bad L = (L', s', false)) : bad = false ∧ ∃ M, L' = L ++ M ∧ M.length = k ∧ s.data.toList = ensB M ++ s'.data.toList := by
  induction k generalizing s bad L with
  | zero =>
    simp only [loopP, Prod.mk.injEq] at h
    obtain ⟨rfl, rfl, rfl⟩ := h
    exact ⟨rfl, [], by simp, rfl, by simp [ensB]⟩
  | succ k ih =>
    cases bad with
    | true => simp [loopP] at h
    | false =>
      obtain ⟨x, s1, b1, he⟩ : ∃ x s1 b1, entP s false = (x, s1, b1) := ⟨_, _, _, rfl⟩
      rw [loopP_step k s L x s1 b1 he] at h
      obtain ⟨rfl, M, rfl, hM, hs⟩ := ih h
      obtain ⟨_, hs2⟩ := entP_of he
      exact ⟨rfl, x :: M, by simp, by simp [hM], by rw [hs2, hs]; simp [ensB]⟩
end Go.Proofs.Lx
