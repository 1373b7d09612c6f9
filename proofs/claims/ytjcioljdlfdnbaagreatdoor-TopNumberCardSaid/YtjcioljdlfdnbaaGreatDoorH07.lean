/- Part 7: lemmas for TopNumber; no conditions. -/
import Derived.Test.YtjcioljdlfdnbaaGreatDoorH01
import Derived.Test.YtjcioljdlfdnbaaGreatDoorH02
set_option linter.unusedVariables false
set_option linter.unusedSimpArgs false
set_option maxRecDepth 100000
set_option maxHeartbeats 2000000
open Go.Proofs.Tryz
namespace Go.Proofs.YtjcioljdlfdnbaaGreatDoor
namespace Np
def lex0:List Nat→List Nat→Int
 | [],[]=>0
 | [],b::B=>if 0<b then -1 else lex0 [] B
 | a::A,[]=>if 0<a then 1 else lex0 A []
 | a::A,b::B=>if a<b then -1 else if b<a then 1 else lex0 A B
def lexn:Nat→List Nat→List Nat→Int
 | 0,_,_=>0
 | n+1,A,B=>
  let x:=match A with|[]=>0|a::_=>48+a
  let y:=match B with|[]=>0|b::_=>48+b
  if x<y then -1 else if y<x then 1 else lexn n A.tail B.tail
def Ends (A:List Nat):Prop:=∀h:A≠[],A.getLast h≠0
theorem Ends.tail{a:Nat}{A:List Nat}(h:Ends (a::A)): Ends A:=by
 intro hA
 have:=h sM
 rwa [List.getLast_cons hA] at this
theorem lexn_nil(n:Nat): lexn n [] []=0:=by
 induction n with
 | zero=>rfl
 | succ n ih=>simp [lexn,ih]
theorem lex0_nil(A:List Nat)(h:Ends A)(hA:A≠[]): lex0 A []=1:=by
 induction A with
 | nil=>exact absurd rfl hA
 | cons a A ih=>
  by_cases ha:0<a
  ·simp [lex0,ha]
  ·have h0:a=0:=oM
   subst h0
   have hn:A≠[]:=by
    rintro rfl
    exact h sM rfl
   simp [lex0,ih h.tail hn]
theorem lex0_nil'(A:List Nat)(h:Ends A)(hA:A≠[]): lex0 [] A=-1:=by
 induction A with
 | nil=>exact absurd rfl hA
 | cons a A ih=>
  by_cases ha:0<a
  ·simp [lex0,ha]
  ·have h0:a=0:=oM
   subst h0
   have hn:A≠[]:=by
    rintro rfl
    exact h sM rfl
   simp [lex0,ih h.tail hn]
theorem lexn_eq(n:Nat): ∀(A B:List Nat),Ends A→Ends B→B.length<n→lexn n A B=lex0 A B:=by
 induction n with
 | zero=>intro A B _ _ h;omega
 | succ n ih=>
  intro A B hA hB hl
  cases A with
  | nil=>
   cases B with
   | nil=>simp [lexn,lex0,lexn_nil]
   | cons b B=>
    rw [lex0_nil' _ hB (by simp)]
    have:0<48+b:=oM
    simp [lexn,this]
  | cons a A=>
   cases B with
   | nil=>
    rw [lex0_nil _ hA (by simp)]
    have:0<48+a:=oM
    simp [lexn,this]
   | cons b B=>
    simp only [lexn,lex0,List.tail_cons]
    by_cases h1:a<b
    ·rw [if_pos (by omega),if_pos h1]
    ·rw [if_neg (by omega),if_neg h1]
     by_cases h2:b<a
     ·rw [if_pos (by omega),if_pos h2]
     ·rw [if_neg (by omega),if_neg h2]
      exact ih A B hA.tail hB.tail (by simp at hl;omega)
def Dg (b:UInt8):Prop:=48≤b.toNat∧b.toNat≤57
instance (b:UInt8):Decidable (Dg b):=inferInstanceAs (Decidable (48≤b.toNat∧b.toNat≤57))
def dlen:List UInt8→Nat
 | []=>0
 | b::l=>if Dg b then dlen l+1 else 0
theorem dlen_le(l:List UInt8): dlen l≤l.length:=by
 induction l with
 | nil=>simp [dlen]
 | cons b l ih=>simp only [dlen];split <;> simp <;> omega
theorem dlen_at(l:List UInt8): ∀i,i<dlen l→∃b,l[i]?=some b∧Dg b:=by
 induction l with
 | nil=>intro i h;simp [dlen] at h
 | cons b l ih=>
  intro i h
  simp only [dlen] at h
  split at h
  ·cases i with
   | zero=>exact ⟨b,rfl,by assumption⟩
   | succ i=>
    obtain ⟨c,h1,h2⟩ :=ih i oM
    exact ⟨c,by simpa using h1,h2⟩
  ·omega
theorem dlen_end(l:List UInt8)(b:UInt8)(h:l[dlen l]?=some b): ¬Dg b:=by
 induction l with
 | nil=>simp at h
 | cons c l ih=>
  simp only [dlen] at h
  split at h
  ·exact ih (by simpa using h)
  ·simp at h;subst h;assumption
theorem dlen_all(l r:List UInt8)(hl:∀b∈l,Dg b)(hr:∀b,r.head?=some b→¬Dg b): dlen (l++r)=l.length:=by
 induction l with
 | nil=>
  cases r with
  | nil=>rfl
  | cons b r=>simp [dlen,hr b rfl]
 | cons b l ih=>
  have h1:Dg b:=hl b sM
  simp only [List.cons_append,dlen,if_pos h1,List.length_cons]
  rw [ih fun c hc=>hl c (by simp [hc])]
def dv (b:UInt8):Nat:=b.toNat-48
def val (l:List UInt8):Nat:=l.foldl (fun n b=>n * 10+dv b) 0
def cut (c:Nat) (l:List UInt8):Nat:=l.foldl (fun n b=>min (n * 10+dv b) c) 0
theorem cut_from(c:Nat)(l:List UInt8): ∀n,l.foldl (fun n b=>min (n * 10+dv b) c) (min n c)=min (l.foldl (fun n b=>n * 10+dv b) n) c:=by
 induction l with
 | nil=>intro n;rfl
 | cons b l ih=>
  intro n
  simp only [List.foldl_cons]
  rw [show min (min n c * 10+dv b) c=min (n * 10+dv b) c by omega]
  exact ih _
theorem cut_eq(c:Nat)(l:List UInt8): cut c l=min (val l) c:=by
 have:=cut_from c l 0
 rw [Nat.zero_min] at this
 exact this
structure Parts (l:List UInt8) (mi:Bool) (wh fr:List UInt8) (em:Bool) (ds:List UInt8):Prop where
 ex:∃fp xp,l=(if mi then [45] else [])++(wh++(fp++xp))∧((fr=[]∧fp=[])∨(fr≠[]∧fp=46::fr))∧((ds=[]∧em=false∧xp=[])∨(ds≠[]∧∃e c,xp=e::(c++ds)∧(e=101∨e=69)∧((em=false∧c=[])∨(em=false∧c=[43])∨(em=true∧c=[45]))))
 w0:wh≠[]
 wz:wh=[48]∨∀b,wh.head?=some b→b≠48
 wd:∀b∈wh,Dg b
 fd:∀b∈fr,Dg b
 dd:∀b∈ds,Dg b
def lead:List Nat→Nat
 | []=>0
 | a::A=>if a=0 then lead A+1 else 0
def shut:List Nat→List Nat
 | []=>[]
 | a::A=>if shut A=[]∧a=0 then [] else a::shut A
theorem shut_ends(A:List Nat): Ends (shut A):=by
 induction A with
 | nil=>intro h;exact absurd rfl h
 | cons a A ih=>
  intro h
  simp only [shut] at h ⊢
  split at h
  ·exact absurd rfl h
  ·rename_i hn
   simp only [if_neg hn]
   by_cases hs:shut A=[]
   ·simp [hs] at hn ⊢
    exact hn
   ·rw [List.getLast_cons hs]
    exact ih hs
theorem lex0_shut(A B:List Nat): lex0 (shut A) (shut B)=lex0 A B:=by
 have nil_l:∀B,lex0 [] (shut B)=lex0 [] B:=by
  intro B
  induction B with
  | nil=>rfl
  | cons b B ih=>
   simp only [shut]
   split
   ·rename_i h
    obtain ⟨h1,rfl⟩ :=h
    simp only [lex0,Nat.lt_irrefl,if_false]
    rw [←ih,h1];simp [lex0]
   ·simp only [lex0]
    split
    ·rfl
    ·exact ih
 have nil_r:∀A,lex0 (shut A) []=lex0 A []:=by
  intro A
  induction A with
  | nil=>rfl
  | cons b B ih=>
   simp only [shut]
   split
   ·rename_i h
    obtain ⟨h1,rfl⟩ :=h
    simp only [lex0,Nat.lt_irrefl,if_false]
    rw [←ih,h1];simp [lex0]
   ·simp only [lex0]
    split
    ·rfl
    ·exact ih
 induction A generalizing B with
 | nil=>exact nil_l B
 | cons a A ih=>
  cases B with
  | nil=>exact nil_r _
  | cons b B=>
   by_cases ha:shut A=[]∧a=0
   ·obtain ⟨h1,rfl⟩ :=ha
    have e:shut (0::A)=[]:=by simp [shut,h1]
    rw [e]
    have h2:=ih B
    rw [h1] at h2
    rw [nil_l]
    simp only [lex0]
    by_cases hb:0<b
    ·simp [hb]
    ·simp only [hb,if_false]
     rw [if_neg (by omega)]
     rw [←h2,nil_l]
   ·have e:shut (a::A)=a::shut A:=by simp [shut];exact fun h1 h2=>ha ⟨h1,h2⟩
    rw [e]
    by_cases hb:shut B=[]∧b=0
    ·obtain ⟨h1,rfl⟩ :=hb
     have e2:shut (0::B)=[]:=by simp [shut,h1]
     rw [e2]
     simp only [lex0]
     have h2:=ih B
     rw [h1] at h2
     by_cases h0:0<a
     ·simp [h0]
     ·simp only [h0,if_false]
      rw [if_neg (by omega)]
      exact h2
    ·have e2:shut (b::B)=b::shut B:=by simp [shut];exact fun h1 h2=>hb ⟨h1,h2⟩
     rw [e2]
     simp only [lex0]
     rw [ih B]
structure Va where
 mi:Bool
 T:List Nat
 p:Int
deriving DecidableEq
def side (v:Va):Int:=if v.T=[] then 0 else if v.mi then -1 else 1
def cmpi (a b:Int):Int:=if a<b then -1 else if b<a then 1 else 0
def cmp (a b:Va):Int:=
 if side a<side b then -1 else if side b<side a then 1 else
 if side a=0 then 0 else
 if a.p<b.p then-side a else if b.p<a.p then side a else side a * lex0 a.T b.T
def va (mi:Bool) (A:List Nat) (P:Int):Va:=
 if shut A=[] then ⟨false,[],0⟩ else ⟨mi,shut (A.drop (lead A)),P-lead A⟩
def rat (A:List Nat) (P k:Int):Nat:=if P-1-k<0 then 0 else A.getD (P-1-k).toNat 0
def rside (mi:Bool) (A:List Nat):Int:=if shut A=[] then 0 else if mi then -1 else 1
def rtop (A:List Nat) (P:Int):Int:=P-1-lead A
def rlow (A:List Nat) (P:Int):Int:=P-(shut A).length
def rloop (x:Int) (A:List Nat) (Pa:Int) (B:List Nat) (Pb:Int):Nat→Int→Int
 | 0,_=>0
 | n+1,k=>if rat A Pa k<rat B Pb k then -x else if rat B Pb k<rat A Pa k then x else rloop x A Pa B Pb n (k-1)
def rless (ma:Bool) (A:List Nat) (Pa:Int) (mb:Bool) (B:List Nat) (Pb:Int):Int:=
 if rside ma A<rside mb B then -1 else if rside mb B<rside ma A then 1 else
 if rside ma A=0 then 0 else
 if rtop A Pa=rtop B Pb then rloop (rside ma A) A Pa B Pb (rtop A Pa-min (rlow A Pa) (rlow B Pb)+1).toNat (rtop A Pa)
 else if rtop A Pa<rtop B Pb then-rside ma A else rside ma A
theorem lead_le(A:List Nat): lead A≤A.length:=by
 induction A with
 | nil=>simp [lead]
 | cons a A ih=>simp only [lead];split <;> simp <;> omega
theorem lead_drop(A:List Nat)(h:shut A≠[]): ∃a B,A.drop (lead A)=a::B∧a≠0:=by
 induction A with
 | nil=>exact absurd rfl h
 | cons a A ih=>
  by_cases ha:a=0
  ·subst ha
   have h2:shut A≠[]:=fun e=>h (by simp [shut,e])
   simp only [lead,if_true,List.drop_succ_cons]
   exact ih h2
  ·exact ⟨a,A,by simp [lead,ha],ha⟩
theorem shut_drop(A:List Nat): ∀k,shut (A.drop k)=(shut A).drop k:=by
 induction A with
 | nil=>intro k;simp [shut]
 | cons a A ih=>
  intro k
  cases k with
  | zero=>simp
  | succ k=>
   simp only [List.drop_succ_cons,ih k,shut]
   split
   ·rename_i h;rw [h.1];simp
   ·simp
theorem shut_lead(A:List Nat)(h:shut A≠[]): shut (A.drop (lead A))≠[]∧(shut A).length=lead A+(shut (A.drop (lead A))).length:=by
 obtain ⟨a,B,e,ha⟩ :=lead_drop A h
 have h1:shut (A.drop (lead A))≠[]:=by rw [e];simp [shut,ha]
 refine ⟨h1,?_⟩
 have h2:=shut_drop A (lead A)
 have h3:((shut A).drop (lead A)).length=(shut A).length-lead A:=by simp
 rw [←h2] at h3
 have:(shut (A.drop (lead A))).length≠0:=by simpa using h1
 omega
theorem lex0_step(U V:List Nat): lex0 U V=if U.headD 0<V.headD 0 then -1 else if V.headD 0<U.headD 0 then 1 else lex0 U.tail V.tail:=by
 cases U with
 | nil=>
  cases V with
  | nil=>simp [lex0]
  | cons b V=>simp [lex0]
 | cons a U=>
  cases V with
  | nil=>simp [lex0]
  | cons b V=>simp [lex0]
theorem shut_tail(U:List Nat)(n:Nat)(h:(shut U).length≤n+1): (shut U.tail).length≤n:=by
 cases U with
 | nil=>simp [shut]
 | cons a U=>
  simp only [shut] at h
  split at h
  ·rename_i hh;simp [hh.1]
  ·simpa using h
def loopL (x:Int):Nat→List Nat→List Nat→Int
 | 0,_,_=>0
 | n+1,U,V=>if U.headD 0<V.headD 0 then -x else if V.headD 0<U.headD 0 then x else loopL x n U.tail V.tail
theorem loopL_eq(x:Int)(n:Nat): ∀U V:List Nat,(shut U).length≤n→(shut V).length≤n→loopL x n U V=x * lex0 U V:=by
 induction n with
 | zero=>
  intro U V hU hV
  have h1:shut U=[]:=by simpa using hU
  have h2:shut V=[]:=by simpa using hV
  rw [←lex0_shut,h1,h2]
  simp [loopL,lex0]
 | succ n ih=>
  intro U V hU hV
  rw [lex0_step]
  simp only [loopL]
  split
  ·omega
  ·split
   ·omega
   ·exact ih _ _ (shut_tail U n hU) (shut_tail V n hV)
theorem headD_drop(A:List Nat)(k:Nat): (A.drop k).headD 0=A.getD k 0:=by
 simp [List.headD_eq_head?_getD,List.head?_drop,List.getD_eq_getElem?_getD]
theorem rloop_eq(x:Int)(A B:List Nat)(Pa Pb:Int)(n:Nat): ∀(i j:Nat) (k:Int),Pa-1-k=i→Pb-1-k=j→rloop x A Pa B Pb n k=loopL x n (A.drop i) (B.drop j):=by
 induction n with
 | zero=>intro i j k _ _;rfl
 | succ n ih=>
  intro i j k hi hj
  have h1:rat A Pa k=A.getD i 0:=by rw [rat,if_neg (by omega),hi];rfl
  have h2:rat B Pb k=B.getD j 0:=by rw [rat,if_neg (by omega),hj];rfl
  simp only [rloop,loopL,h1,h2,headD_drop]
  rw [ih (i+1) (j+1) (k-1) (by omega) (by omega)]
  simp [List.tail_drop]
theorem va_side(mi:Bool)(A:List Nat)(P:Int): side (va mi A P)=rside mi A:=by
 unfold va rside side
 by_cases h:shut A=[]
 ·simp [h]
 ·have:=(shut_lead A h).1
  simp [h,this]
theorem rless_eq(ma:Bool)(A:List Nat)(Pa:Int)(mb:Bool)(B:List Nat)(Pb:Int): rless ma A Pa mb B Pb=cmp (va ma A Pa) (va mb B Pb):=by
 unfold rless cmp
 rw [va_side,va_side]
 by_cases h1:rside ma A<rside mb B
 ·simp [h1]
 by_cases h2:rside mb B<rside ma A
 ·simp [h1,h2]
 by_cases h3:rside ma A=0
 ·simp [h3]
 simp only [h1,h2,h3,if_false]
 have hA:shut A≠[]:=fun e=>h3 (by simp [rside,e])
 have h3':rside mb B≠0:=oM
 have hB:shut B≠[]:=fun e=>h3' (by simp [rside,e])
 obtain ⟨a1,a2⟩ :=shut_lead A hA
 obtain ⟨b1,b2⟩ :=shut_lead B hB
 have:(shut (A.drop (lead A))).length≠0:=by simpa using a1
 have:(shut (B.drop (lead B))).length≠0:=by simpa using b1
 have eA:(va ma A Pa).p=Pa-lead A:=by simp [va,hA]
 have eB:(va mb B Pb).p=Pb-lead B:=by simp [va,hB]
 have tA:(va ma A Pa).T=shut (A.drop (lead A)):=by simp [va,hA]
 have tB:(va mb B Pb).T=shut (B.drop (lead B)):=by simp [va,hB]
 rw [eA,eB,tA,tB,lex0_shut]
 unfold rtop
 by_cases h4:Pa-1-(lead A:Int)=Pb-1-lead B
 ·rw [if_pos h4,if_neg (by omega),if_neg (by omega)]
  rw [rloop_eq _ _ _ _ _ _ (lead A) (lead B) _ (by omega) (by omega)]
  refine loopL_eq _ _ _ _ ?_ ?_
  ·unfold rlow;omega
  ·unfold rlow;omega
 ·rw [if_neg h4]
  by_cases h5:Pa-1-(lead A:Int)<Pb-1-lead B
  ·rw [if_pos h5,if_pos (by omega)]
  ·rw [if_neg h5,if_neg (by omega),if_pos (by omega)]
def dig (l:List UInt8):List Nat:=l.map dv
def ev (em:Bool) (c:Nat) (ds:List UInt8):Int:=if em then -((cut c ds:Nat):Int) else (cut c ds:Nat)
def nds (n:Int):List UInt8:=Lib.decDigits n.natAbs
def nva (n:Int):Va:=va (decide (n<0)) (dig (nds n)) (nds n).length
def rcmp (mi:Bool) (wh fr:List UInt8) (em:Bool) (ds:List UInt8) (n:Int):Int:=
 rless mi (dig (wh++fr)) (wh.length+ev em 1000000000000 ds) (decide (n<0)) (dig (nds n)) (nds n).length
def sva (mi:Bool) (wh fr:List UInt8) (em:Bool) (ds:List UInt8):Va:=va mi (dig (wh++fr)) (wh.length+ev em 1099511627776 ds)
def psize (a b:Va):Int:=if a.p<b.p then -1 else if b.p<a.p then 1 else lexn 20 a.T b.T
def pcmp (a b:Va):Int:=if side a<side b then -1 else if side b<side a then 1 else side a * psize a b
theorem va_ends(mi:Bool)(A:List Nat)(P:Int): Ends (va mi A P).T:=by
 unfold va
 split
 ·intro h;exact absurd rfl h
 ·exact shut_ends _
theorem shut_len(A:List Nat): (shut A).length≤A.length:=by
 induction A with
 | nil=>simp [shut]
 | cons a A ih=>simp only [shut];split <;> simp <;> omega
theorem va_len(mi:Bool)(A:List Nat)(P:Int): (va mi A P).T.length≤A.length:=by
 unfold va
 split
 ·simp
 ·have:=shut_len (A.drop (lead A))
  simp at this ⊢
  omega
theorem pcmp_eq(a b:Va)(ha:Ends a.T)(hb:Ends b.T)(hl:b.T.length<20): pcmp a b=cmp a b:=by
 unfold pcmp cmp psize
 by_cases h1:side a<side b
 ·simp [h1]
 by_cases h2:side b<side a
 ·simp [h1,h2]
 simp only [h1,h2,if_false]
 by_cases h3:side a=0
 ·simp [h3]
 simp only [h3,if_false]
 by_cases h4:a.p<b.p
 ·simp [h4]
 by_cases h5:b.p<a.p
 ·simp [h4,h5]
 simp only [h4,h5,if_false]
 rw [lexn_eq 20 a.T b.T ha hb hl]
theorem nDigits_le(k:Nat): ∀u,u<10 ^ k→1≤k→Lib.nDigits u≤k:=by
 induction k with
 | zero=>intro u _ h;omega
 | succ k ih=>
  intro u hu _
  rw [Lib.nDigits]
  split
  ·omega
  ·by_cases hk:k=0
   ·subst hk;simp at hu;omega
   ·have:=ih (u / 10) (by rw [Nat.pow_succ] at hu;omega) oM
    omega
theorem nds_len(n:Int)(h:n.natAbs<10 ^ 16): (nds n).length≤16:=by
 unfold nds
 rw [Lib.decDigits_length]
 exact nDigits_le 16 _ h oM
theorem nva_p(n:Int)(h:n.natAbs<10 ^ 16): (nva n).p≤16∧0≤(nva n).p:=by
 have h1:=nds_len n h
 unfold nva va
 split
 ·simp
 ·have h2:=lead_le (dig (nds n))
  simp only [dig,List.length_map] at h2 ⊢
  omega
theorem cmp_p(a b c:Va)(h1:a.mi=b.mi)(h2:a.T=b.T)(h3:a.p=b.p∨(c.p<a.p∧c.p<b.p)∨(a.p<c.p∧b.p<c.p)): cmp a c=cmp b c:=by
 have hs:side a=side b:=by simp [side,h1,h2]
 unfold cmp
 rw [hs,h2]
 rcases h3 with h|⟨h,k⟩|⟨h,k⟩
 ·rw [h]
 ·rw [if_neg (show ¬a.p<c.p by omega),if_neg (show ¬b.p<c.p by omega),if_pos h,if_pos k]
 ·rw [if_pos h,if_pos k]
theorem pcmp_rcmp(mi:Bool)(wh fr:List UInt8)(em:Bool)(ds:List UInt8)(n:Int)(hl:wh.length+fr.length≤100)(hn:n.natAbs<10 ^ 16):
  pcmp (sva mi wh fr em ds) (nva n)=rcmp mi wh fr em ds n:=by
 have h1:=nds_len n hn
 have h2:=va_len (decide (n<0)) (dig (nds n)) (nds n).length
 rw [pcmp_eq (sva mi wh fr em ds) (nva n) (va_ends _ _ _) (va_ends _ _ _) (by simp only [dig,List.length_map] at h2;unfold nva;simp only [dig];omega)]
 unfold rcmp
 rw [rless_eq]
 have h3:=nva_p n hn
 have e1:=cut_eq 1099511627776 ds
 have e2:=cut_eq 1000000000000 ds
 have h4:=lead_le (dig (wh++fr))
 simp only [dig,List.length_map,List.length_append] at h4
 change cmp _ (nva n)=cmp _ (nva n)
 unfold sva
 by_cases hz:shut (dig (wh++fr))=[]
 ·simp [va,hz]
 ·refine cmp_p _ _ _ (by simp [va,hz]) (by simp [va,hz]) ?_
  have pa:∀P:Int,(va mi (dig (wh++fr)) P).p=P-lead (dig (wh++fr)):=fun P=>by simp [va,hz]
  rw [pa,pa]
  unfold ev
  rw [e1,e2]
  by_cases hv:val ds≤1000000000000
  ·left
   rw [Nat.min_eq_left hv,Nat.min_eq_left (by omega)]
  ·right
   have g1:1000000000000≤min (val ds) 1099511627776:=oM
   have g2:1000000000000≤min (val ds) 1000000000000:=oM
   generalize min (val ds) 1099511627776=v1 at g1
   generalize min (val ds) 1000000000000=v2 at g2
   have:lead (dig (wh++fr))≤100:=by simp only [dig];omega
   cases em
   ·left;simp only [Bool.false_eq_true,if_false];omega
   ·right;simp only [if_true];omega
def nQ (l:List UInt8) (p:Nat):Nat:=if l[p+1]?=some 45∨l[p+1]?=some 43 then p+2 else p+1
def numE (l:List UInt8) (mi:Bool) (wh fr:List UInt8) (p:Nat):Option (Bool × List UInt8 × List UInt8 × Bool × List UInt8):=
 if p=l.length then some (mi,wh,fr,false,[]) else
 if l[p]?≠some 101∧l[p]?≠some 69 then none else
 if dlen (l.drop (nQ l p))=0∨nQ l p+dlen (l.drop (nQ l p))≠l.length then none else
 some (mi,wh,fr,decide (l[p+1]?=some 45),(l.drop (nQ l p)).take (dlen (l.drop (nQ l p))))
def nA (l:List UInt8):Nat:=if l[0]?=some 45 then 1 else 0
def nW (l:List UInt8):Nat:=dlen (l.drop (nA l))
def numP (l:List UInt8):Option (Bool × List UInt8 × List UInt8 × Bool × List UInt8):=
 if nW l=0∨(1<nW l∧l[nA l]?=some 48) then none else
 if l[nA l+nW l]?=some 46 then
  if dlen (l.drop (nA l+nW l+1))=0 then none else
  numE l (decide (l[0]?=some 45)) ((l.drop (nA l)).take (nW l)) ((l.drop (nA l+nW l+1)).take (dlen (l.drop (nA l+nW l+1)))) (nA l+nW l+1+dlen (l.drop (nA l+nW l+1)))
 else numE l (decide (l[0]?=some 45)) ((l.drop (nA l)).take (nW l)) [] (nA l+nW l)
theorem take_dig(l:List UInt8): ∀b∈l.take (dlen l),Dg b:=by
 induction l with
 | nil=>intro b h;simp at h
 | cons c l ih=>
  intro b h
  simp only [dlen] at h
  split at h
  ·rename_i hc
   rw [List.take_succ_cons] at h
   rcases List.mem_cons.1 h with rfl|h
   ·exact hc
   ·exact ih b h
  ·simp at h
theorem drop_cons(l:List UInt8)(p:Nat)(b:UInt8)(h:l[p]?=some b): l.drop p=b::l.drop (p+1):=by
 obtain ⟨hp,rfl⟩ :=List.getElem?_eq_some_iff.1 h
 exact List.drop_eq_getElem_cons hp
theorem numE_parts{l:List UInt8}{mi:Bool}{wh fr:List UInt8}{p:Nat}{mi':Bool}{wh' fr':List UInt8}{em:Bool}{ds:List UInt8}(h:numE l mi wh fr p=some (mi',wh',fr',em,ds))(hp:p≤l.length):
  mi'=mi∧wh'=wh∧fr'=fr∧(∀b∈ds,Dg b)∧∃xp,l.drop p=xp∧((ds=[]∧em=false∧xp=[])∨(ds≠[]∧∃e c,xp=e::(c++ds)∧(e=101∨e=69)∧((em=false∧c=[])∨(em=false∧c=[43])∨(em=true∧c=[45])))):=by
 unfold numE at h
 split at h
 ·rename_i h0
  simp at h
  obtain ⟨rfl,rfl,rfl,rfl,rfl⟩ :=h
  exact ⟨rfl,rfl,rfl,by simp,_,rfl,.inl ⟨rfl,rfl,by rw [h0];simp⟩⟩
 ·split at h
  ·simp at h
  ·rename_i h0 h1
   obtain ⟨e,he⟩:∃e,l[p]?=some e:=⟨l[p]'oM,List.getElem?_eq_getElem oM⟩
   have hee:e=101∨e=69:=by
    rw [he] at h1
    by_cases a:e=101
    ·exact .inl a
    ·by_cases b:e=69
     ·exact .inr b
     ·exact absurd ⟨by simpa using a,by simpa using b⟩ h1
   have hd:=drop_cons l p e he
   split at h
   ·simp at h
   ·rename_i h2
    simp only [not_or,Decidable.not_not] at h2
    obtain ⟨h2,h3⟩ :=h2
    simp at h
    obtain ⟨rfl,rfl,rfl,rfl,rfl⟩ :=h
    refine ⟨rfl,rfl,rfl,take_dig _,_,rfl,.inr ?_⟩
    by_cases g1:l[p+1]?=some 45
    ·have hq:nQ l p=p+2:=by unfold nQ;simp [g1]
     rw [hq] at h2 h3 ⊢
     have hd1:=drop_cons l (p+1) 45 g1
     have ht:(l.drop (p+2)).take (dlen (l.drop (p+2)))=l.drop (p+2):=List.take_of_length_le (by simp;omega)
     refine ⟨by rw [ht];intro e0;rw [e0] at h2;exact h2 rfl,e,[45],?_,hee,.inr (.inr ⟨by simp [g1],rfl⟩)⟩
     rw [ht,hd,hd1];rfl
    ·by_cases g2:l[p+1]?=some 43
     ·have hq:nQ l p=p+2:=by unfold nQ;simp [g2]
      rw [hq] at h2 h3 ⊢
      have hd1:=drop_cons l (p+1) 43 g2
      have ht:(l.drop (p+2)).take (dlen (l.drop (p+2)))=l.drop (p+2):=List.take_of_length_le (by simp;omega)
      refine ⟨by rw [ht];intro e0;rw [e0] at h2;exact h2 rfl,e,[43],?_,hee,.inr (.inl ⟨by simp [g1],rfl⟩)⟩
      rw [ht,hd,hd1];rfl
     ·have hq:nQ l p=p+1:=by unfold nQ;simp [g1,g2]
      rw [hq] at h2 h3 ⊢
      have ht:(l.drop (p+1)).take (dlen (l.drop (p+1)))=l.drop (p+1):=List.take_of_length_le (by simp;omega)
      refine ⟨by rw [ht];intro e0;rw [e0] at h2;exact h2 rfl,e,[],?_,hee,.inl ⟨by simp [g1],rfl⟩⟩
      rw [ht,hd];rfl
theorem numP_parts{l:List UInt8}{mi:Bool}{wh fr:List UInt8}{em:Bool}{ds:List UInt8}(h:numP l=some (mi,wh,fr,em,ds)): Parts l mi wh fr em ds:=by
 unfold numP at h
 split at h
 ·simp at h
 ·rename_i h0
  simp only [not_or] at h0
  obtain ⟨h0,h1⟩ :=h0
  have hA:nA l≤l.length:=by
   unfold nA;split
   ·rename_i g;obtain ⟨g,-⟩ :=List.getElem?_eq_some_iff.1 g;omega
   ·omega
  have hW:nA l+nW l≤l.length:=by
   have:=dlen_le (l.drop (nA l))
   unfold nW;simp at this;omega
  have split0:l=(if decide (l[0]?=some 45) then [45] else [])++l.drop (nA l):=by
   unfold nA
   by_cases g:l[0]?=some 45
   ·simp only [g,decide_true,if_true]
    have:=drop_cons l 0 45 g
    simpa using this
   ·simp [g]
  have split1:l.drop (nA l)=(l.drop (nA l)).take (nW l)++l.drop (nA l+nW l):=by
   rw [←List.drop_drop];exact (List.take_append_drop _ _).symm
  have w0:(l.drop (nA l)).take (nW l)≠[]:=by
   intro e
   have:=congrArg List.length e
   simp at this
   omega
  have wz:(l.drop (nA l)).take (nW l)=[48]∨∀b,((l.drop (nA l)).take (nW l)).head?=some b→b≠48:=by
   by_cases g:l[nA l]?=some 48
   ·left
    have hw1:nW l=1:=by
     by_cases k:1<nW l
     ·exact absurd ⟨k,g⟩ h1
     ·omega
    rw [hw1,drop_cons l _ _ g];rfl
   ·right
    intro b hb e
    subst e
    rw [List.head?_take] at hb
    split at hb
    ·simp at hb
    ·rw [List.head?_drop] at hb;exact g hb
  have wd:∀b∈(l.drop (nA l)).take (nW l),Dg b:=take_dig _
  split at h
  ·rename_i g
   split at h
   ·simp at h
   ·rename_i g2
    have hF:nA l+nW l+1+dlen (l.drop (nA l+nW l+1))≤l.length:=by
     have h5:=dlen_le (l.drop (nA l+nW l+1))
     obtain ⟨g3,-⟩ :=List.getElem?_eq_some_iff.1 g
     simp at h5;omega
    obtain ⟨rfl,rfl,rfl,hds,xp,hx,hp⟩ :=numE_parts h hF
    refine ⟨⟨_,xp,?_,.inr ⟨?_,rfl⟩,hp⟩,w0,wz,wd,take_dig _,hds⟩
    ·conv=>lhs;rw [split0]
     congr 1
     conv=>lhs;rw [split1]
     congr 1
     rw [drop_cons l _ 46 g,List.cons_append]
     congr 1
     have h9:=(List.take_append_drop (dlen (l.drop (nA l+nW l+1))) (l.drop (nA l+nW l+1))).symm
     rw [List.drop_drop] at h9
     rw [←hx]
     exact h9
    ·intro e
     have:=congrArg List.length e
     simp at this
     have h5:=dlen_le (l.drop (nA l+nW l+1))
     simp at h5
     omega
  ·obtain ⟨rfl,rfl,rfl,hds,xp,hx,hp⟩ :=numE_parts h hW
   refine ⟨⟨[],xp,?_,.inl ⟨rfl,rfl⟩,hp⟩,w0,wz,wd,by simp,hds⟩
   conv=>lhs;rw [split0]
   congr 1
   conv=>lhs;rw [split1]
   congr 1
end Np
namespace Nn
open Go.RowKit
open Np
theorem digit_any(b:UInt8)(w:World): Calls prog 33 #[.int .u8 (b.toNat:Nat)] w fun e w'=>e=.returned (.bool (decide (Dg b)))∧w=w':=by
 by_cases h1:48≤b.toNat
 ·have d1:decide (48≤((b.toNat:Nat):Int))=true:=by rw [decide_eq_true_eq];omega
  by_cases h2:b.toNat≤57
  ·have d2:decide (((b.toNat:Nat):Int)≤57)=true:=by rw [decide_eq_true_eq];omega
   rw [show decide (Dg b)=true by rw [decide_eq_true_eq];exact ⟨h1,h2⟩]
   go_enter func33,ntmps33
   go_wp2_with fail
   go_ret
   exact ⟨rfl,rfl⟩
  ·have d2:decide (((b.toNat:Nat):Int)≤57)=false:=by rw [decide_eq_false_iff_not];omega
   rw [show decide (Dg b)=false by rw [decide_eq_false_iff_not];exact fun h=>h2 h.2]
   go_enter func33,ntmps33
   go_wp2_with fail
   go_ret
   exact ⟨rfl,rfl⟩
 ·have d1:decide (48≤((b.toNat:Nat):Int))=false:=by rw [decide_eq_false_iff_not];omega
  rw [show decide (Dg b)=false by rw [decide_eq_false_iff_not];exact fun h=>h1 h.1]
  go_enter func33,ntmps33
  go_wp2_with fail
  go_ret
  exact ⟨rfl,rfl⟩
theorem digit_yes(b:UInt8)(h:Dg b)(w:World): Calls prog 33 #[.int .u8 (b.toNat:Nat)] w fun e w'=>e=.returned (.bool true)∧w=w':=by
 have:=digit_any b w
 rwa [show decide (Dg b)=true from decide_eq_true h] at this
theorem digit_no(b:UInt8)(h:¬Dg b)(w:World): Calls prog 33 #[.int .u8 (b.toNat:Nat)] w fun e w'=>e=.returned (.bool false)∧w=w':=by
 have:=digit_any b w
 rwa [show decide (Dg b)=false from decide_eq_false h] at this
theorem idx_run(s:ByteArray)(k:Nat)(h:k<s.size)(i:Int)(hi:i=(k:Int))(w:World): (Instr.index 9 (.string s) (.int .i64 i)).run prog w=.ok (.int .u8 ((s[k]'h).toNat:Int)) w:=by
 subst hi
 rw [run_index_string w 9 s .i64 (k:Int) underlying9,dif_pos (by omega)]
 rfl
def kpos8 (c:Nat):Nat:=if c=34 then 0 else if c=92 then 1 else if c=47 then 2 else if c=98 then 3 else if c=102 then 4 else if c=110 then 5 else if c=114 then 6 else if c=116 then 7 else 8
abbrev signS8:ByteArray:=⟨#[34,92,47,98,102,110,114,116]⟩
abbrev meanS8:ByteArray:=⟨#[34,92,47,8,12,10,13,9]⟩
theorem dlen_in(s:ByteArray)(k j:Nat)(h:j<dlen (s.data.toList.drop k)): ∃hk:k+j<s.size,Dg (s[k+j]'hk):=by
 obtain ⟨b,h1,h2⟩ :=dlen_at _ j h
 rw [List.getElem?_drop] at h1
 obtain ⟨hl,h3⟩ :=List.getElem?_eq_some_iff.1 h1
 exact ⟨by rw [Lib.size_eq];exact hl,by rw [show s[k+j]'_=b from h3];exact h2⟩
theorem dlen_out(s:ByteArray)(k:Nat)(hk:k+dlen (s.data.toList.drop k)<s.size): ¬Dg (s[k+dlen (s.data.toList.drop k)]'hk):=by
 refine dlen_end (s.data.toList.drop k) _ ?_
 rw [List.getElem?_drop]
 exact List.getElem?_eq_some_iff.2 ⟨by rw [←Lib.size_eq];exact hk,rfl⟩
theorem dlen_size(s:ByteArray)(k:Nat)(hk:k≤s.size): k+dlen (s.data.toList.drop k)≤s.size:=by
 have:=dlen_le (s.data.toList.drop k)
 rw [List.length_drop,←Lib.size_eq] at this
 omega
theorem rrun_any(s:ByteArray)(k d:Nat)(hs:s.size≤1000)(hk:k≤s.size)(hd:Hid (dlen (s.data.toList.drop k)=d))(w:World): Calls prog 18 #[.string s,.int .i64 (k:Nat)] w fun e w'=>e=.returned (.int .i64 (d:Nat))∧w=w':=by
 have hsz:=dlen_size s k hk
 rw [hd.out] at hsz
 go_enter func18,ntmps18
 go_wp2_with fail
 go_loopg [5] d (fun g v wr=>(∃j:Nat,v=.int .i64 (j:Nat)∧j≤d∧g=d-j)∧wr=w)
 case atStart=>exact ⟨⟨0,rfl,by omega,rfl⟩,rfl⟩
 case round=>
  obtain ⟨⟨j,rfl,hj,rfl⟩,rfl⟩ :=hrel
  have hw:IntKind.i64.wrap ((k:Int)+(j:Int))=(k:Int)+(j:Int):=IntWalk.i64_in _ oM
  by_cases hlt:j<d
  ·obtain ⟨hk2,hD⟩ :=dlen_in s k j (by rw [hd.out];exact hlt)
   have d1:decide ((k:Int)+(j:Int)<(s.size:Int))=true:=by rw [decide_eq_true_eq];omega
   have hX:=idx_run s (k+j) hk2 ((k:Int)+(j:Int)) oM
   go_wp2_with (first|(go_at_call 33;refine (digit_yes (s[k+j]'hk2) hD _).mono ?_;rintro e w1 ⟨rfl,rfl⟩))
   go_roundg (d-(j+1))
   case measure=>go_light;omega
   case rel=>go_light;exact ⟨⟨j+1,by go_num,by omega,rfl⟩,rfl⟩
  ·obtain rfl:j=d:=oM
   rcases Nat.lt_or_ge (k+j) s.size with hl|hl
   ·have d1:decide ((k:Int)+(j:Int)<(s.size:Int))=true:=by rw [decide_eq_true_eq];omega
    have hD:¬Dg (s[k+j]'hl):=by
     have:=dlen_out s k (by rw [hd.out];exact hl)
     simpa only [hd.out] using this
    have hX:=idx_run s (k+j) hl ((k:Int)+(j:Int)) oM
    go_wp2_with (first|(go_at_call 33;refine (digit_no (s[k+j]'hl) hD _).mono ?_;rintro e w1 ⟨rfl,rfl⟩))
    go_ret
    exact ⟨rfl,rfl⟩
   ·have d1:decide ((k:Int)+(j:Int)<(s.size:Int))=false:=by rw [decide_eq_false_iff_not];omega
    go_wp2_with fail
    go_ret
    exact ⟨rfl,rfl⟩
structure Dr (A:List Nat) (g:Nat) (W:World):Prop where
 lt:g<W.heap.size
 c:∀i (h:i<A.length),W.cell? ⟨g,i,none⟩=some (.int .i64 (A[i]:Nat))
theorem Dr.below{A:List Nat}{g:Nat}{W W':World}(h:Dr A g W)(hb:Below W.heap.size W W'): Dr A g W':=⟨Nat.lt_of_lt_of_le h.lt hb.size,fun i hi=>(hb.cell (p:=⟨g,i,none⟩) h.lt).trans (h.c i hi)⟩
theorem zero_of(A:List Nat)(h:∀i (h:i<A.length),A[i]=0): shut A=[]:=by
 induction A with
 | nil=>rfl
 | cons a A ih=>
  have h0:=h 0 sM
  simp at h0
  subst h0
  simp [shut]
  exact ih fun i hi=>by have:=h (i+1) (by simp;omega);simpa using this
theorem nonzero_of(A:List Nat)(i:Nat)(h:i<A.length)(hn:A[i]≠0): shut A≠[]:=by
 induction A generalizing i with
 | nil=>simp at h
 | cons a A ih=>
  cases i with
  | zero=>simp at hn;simp [shut,hn]
  | succ i=>
   have:=ih i (by simpa using h) (by simpa using hn)
   simp [shut,this]
theorem lead_of(A:List Nat)(i:Nat)(h:i<A.length)(hz:∀j (h:j<A.length),j<i→A[j]=0)(hn:A[i]≠0): lead A=i:=by
 induction A generalizing i with
 | nil=>simp at h
 | cons a A ih=>
  cases i with
  | zero=>simp at hn;simp [lead,hn]
  | succ i=>
   have h0:=hz 0 sM oM
   simp at h0
   subst h0
   simp only [lead,if_true]
   rw [ih i (by simpa using h) (fun j hj hl=>by have:=hz (j+1) (by simp;omega) (by omega);simpa using this) (by simpa using hn)]
theorem shutlen_of(A:List Nat)(i:Nat)(h:i<A.length)(hz:∀j (h:j<A.length),i<j→A[j]=0)(hn:A[i]≠0): (shut A).length=i+1:=by
 induction A generalizing i with
 | nil=>simp at h
 | cons a A ih=>
  cases i with
  | zero=>
   simp at hn
   have e:shut A=[]:=zero_of A fun j hj=>by have:=hz (j+1) (by simp;omega) oM;simpa using this
   simp [shut,e,hn]
  | succ i=>
   have h1:=ih i (by simpa using h) (fun j hj hl=>by have:=hz (j+1) (by simp;omega) oM;simpa using this) (by simpa using hn)
   have h2:shut A≠[]:=by intro e;rw [e] at h1;simp at h1
   simp [shut,h2,h1]
theorem first_nz(A:List Nat)(h:shut A≠[]): ∃t,∃h:t<A.length,A[t]≠0∧Hid (∀i (h:i<A.length),i<t→A[i]=0):=by
 induction A with
 | nil=>exact absurd rfl h
 | cons a A ih=>
  by_cases ha:a=0
  ·subst ha
   obtain ⟨t,h1,h2,h3⟩ :=ih (fun e=>h (by simp [shut,e]))
   exact ⟨t+1,by simp;omega,by simpa using h2,hid (fun i hi hl=>by
    cases i with
    | zero=>rfl
    | succ i=>simpa using h3.out i (by simpa using hi) oM)⟩
  ·exact ⟨0,by simp,by simpa using ha,hid (fun i hi hl=>oM)⟩
theorem last_nz(A:List Nat)(h:shut A≠[]): ∃t,∃h:t<A.length,A[t]≠0∧Hid (∀i (h:i<A.length),t<i→A[i]=0):=by
 induction A with
 | nil=>exact absurd rfl h
 | cons a A ih=>
  by_cases hs:shut A=[]
  ·have ha:a≠0:=fun e=>h (by simp [shut,hs,e])
   refine ⟨0,by simp,by simpa using ha,hid (fun i hi hl=>?_)⟩
   cases i with
   | zero=>omega
   | succ i=>
    by_cases h0:A[i]'(by simpa using hi)=0
    ·simpa using h0
    ·exact absurd hs (nonzero_of A i _ h0)
  ·obtain ⟨t,h1,h2,h3⟩ :=ih hs
   exact ⟨t+1,by simp;omega,by simpa using h2,hid (fun i hi hl=>by
    cases i with
    | zero=>omega
    | succ i=>simpa using h3.out i (by simpa using hi) oM)⟩
theorem rzero_any(mi:Bool)(A:List Nat)(g c:Nat)(P E:Int)(hA:A.length≤1000)(hc:A.length≤c)(w:World)(h:Dr A g w): Calls prog 34 #[.agg #[.bool mi,.slice (some ⟨g,0,none⟩) A.length c,.int .i64 P,.int .i64 E]] w fun e w'=>e=.returned (.bool (decide (shut A=[])))∧Below w.heap.size w w':=by
 go_enter func34,ntmps34
 go_wp2_with fail
 have hB0:Hid (Below w.heap.size w (w.alloc (.cells #[.bool mi,.slice (some ⟨g,0,none⟩) A.length c,.int .i64 P,.int .i64 E] 37))):=hid (qR.alloc qL _)
 have b0:(w.alloc (.cells #[.bool mi,.slice (some ⟨g,0,none⟩) A.length c,.int .i64 P,.int .i64 E] 37)).cell? ⟨w.heap.size,0,none⟩=some (.bool mi):=by simp [go_sem]
 have b1:(w.alloc (.cells #[.bool mi,.slice (some ⟨g,0,none⟩) A.length c,.int .i64 P,.int .i64 E] 37)).cell? ⟨w.heap.size,1,none⟩=some (.slice (some ⟨g,0,none⟩) A.length c):=by simp [go_sem]
 have b2:(w.alloc (.cells #[.bool mi,.slice (some ⟨g,0,none⟩) A.length c,.int .i64 P,.int .i64 E] 37)).cell? ⟨w.heap.size,2,none⟩=some (.int .i64 P):=by simp [go_sem]
 have b3:(w.alloc (.cells #[.bool mi,.slice (some ⟨g,0,none⟩) A.length c,.int .i64 P,.int .i64 E] 37)).cell? ⟨w.heap.size,3,none⟩=some (.int .i64 E):=by simp [go_sem]
 have hD:=h.below hB0.out
 have bl:w.heap.size<(w.alloc (.cells #[.bool mi,.slice (some ⟨g,0,none⟩) A.length c,.int .i64 P,.int .i64 E] 37)).heap.size:=by simp
 clear h
 generalize (w.alloc (.cells #[.bool mi,.slice (some ⟨g,0,none⟩) A.length c,.int .i64 P,.int .i64 E] 37))=w1 at hB0 b0 b1 b2 b3 hD bl ⊢
 generalize w.heap.size=B at b0 b1 b2 b3 bl ⊢
 have bl2:=hD.lt
 go_loopg [3] A.length (fun q v wr=>(∃j:Nat,v=.int .i64 (j:Nat)∧j≤A.length∧q=A.length-j∧Hid (∀i (h:i<A.length),i<j→A[i]=0))∧wr=w1)
 case atStart=>exact ⟨⟨0,rfl,by omega,rfl,hid (fun i _ h=>oM)⟩,rfl⟩
 case round=>
  obtain ⟨⟨j,rfl,hj,rfl,hz⟩,rfl⟩ :=hrel
  by_cases hlt:j<A.length
  ·have d1:decide ((j:Int)<(A.length:Int))=true:=by rw [decide_eq_true_eq];omega
   have cj:=hD.c j hlt
   by_cases ha:A[j]=0
   ·have d2:(((A[j]:Nat):Int) != 0)=false:=by rw [ha];rfl
    go_wp2_with fail
    go_roundg (A.length-(j+1))
    case measure=>go_light;omega
    case rel=>go_light;exact ⟨⟨j+1,by go_num,by omega,rfl,hid (fun i h hi=>if e:i=j then by subst e;exact ha else hz.out i h oM)⟩,rfl⟩
   ·have d2:(((A[j]:Nat):Int) != 0)=true:=by rw [bne_iff_ne];omega
    have hr:=nonzero_of A j hlt ha
    go_wp2_with fail
    go_ret
    exact ⟨by simp [hr],hB0.out⟩
  ·have d1:decide ((j:Int)<(A.length:Int))=false:=by rw [decide_eq_false_iff_not];omega
   have hr:=zero_of A fun i hi=>hz.out i hi oM
   go_wp2_with fail
   go_ret
   exact ⟨by simp [hr],hB0.out⟩
theorem rtop_any(mi:Bool)(A:List Nat)(g c:Nat)(P E:Int)(hA:A.length≤1000)(hc:A.length≤c)(hP:0≤P∧P≤1000)(hE:-2000000000000≤E∧E≤2000000000000)(hn:shut A≠[])(w:World)(h:Dr A g w): Calls prog 20 #[.agg #[.bool mi,.slice (some ⟨g,0,none⟩) A.length c,.int .i64 P,.int .i64 E]] w fun e w'=>e=.returned (.int .i64 (rtop A (P+E)))∧Below w.heap.size w w':=by
 obtain ⟨t,ht1,ht2,ht3⟩ :=first_nz A hn
 have hr:rtop A (P+E)=P+E-1-(t:Int):=by unfold rtop;rw [lead_of A t ht1 (fun j h hl=>ht3.out j h hl) ht2]
 rw [hr]
 have:IntKind.i64.wrap (P+E)=P+E:=IntWalk.i64_in _ oM
 have:IntKind.i64.wrap (P+E-1)=P+E-1:=IntWalk.i64_in _ oM
 have:IntKind.i64.wrap (P+E-1-(t:Int))=P+E-1-(t:Int):=IntWalk.i64_in _ oM
 go_enter func20,ntmps20
 go_wp2_with fail
 have hB0:Hid (Below w.heap.size w (w.alloc (.cells #[.bool mi,.slice (some ⟨g,0,none⟩) A.length c,.int .i64 P,.int .i64 E] 37))):=hid (qR.alloc qL _)
 have b0:(w.alloc (.cells #[.bool mi,.slice (some ⟨g,0,none⟩) A.length c,.int .i64 P,.int .i64 E] 37)).cell? ⟨w.heap.size,0,none⟩=some (.bool mi):=by simp [go_sem]
 have b1:(w.alloc (.cells #[.bool mi,.slice (some ⟨g,0,none⟩) A.length c,.int .i64 P,.int .i64 E] 37)).cell? ⟨w.heap.size,1,none⟩=some (.slice (some ⟨g,0,none⟩) A.length c):=by simp [go_sem]
 have b2:(w.alloc (.cells #[.bool mi,.slice (some ⟨g,0,none⟩) A.length c,.int .i64 P,.int .i64 E] 37)).cell? ⟨w.heap.size,2,none⟩=some (.int .i64 P):=by simp [go_sem]
 have b3:(w.alloc (.cells #[.bool mi,.slice (some ⟨g,0,none⟩) A.length c,.int .i64 P,.int .i64 E] 37)).cell? ⟨w.heap.size,3,none⟩=some (.int .i64 E):=by simp [go_sem]
 have hD:=h.below hB0.out
 have bl:w.heap.size<(w.alloc (.cells #[.bool mi,.slice (some ⟨g,0,none⟩) A.length c,.int .i64 P,.int .i64 E] 37)).heap.size:=by simp
 clear h
 generalize (w.alloc (.cells #[.bool mi,.slice (some ⟨g,0,none⟩) A.length c,.int .i64 P,.int .i64 E] 37))=w1 at hB0 b0 b1 b2 b3 hD bl ⊢
 generalize w.heap.size=B at b0 b1 b2 b3 bl ⊢
 have bl2:=hD.lt
 go_loopg [3] t (fun q v wr=>(∃j:Nat,v=.int .i64 (j:Nat)∧j≤t∧q=t-j)∧wr=w1)
 case atStart=>exact ⟨⟨0,rfl,by omega,rfl⟩,rfl⟩
 case round=>
  obtain ⟨⟨j,rfl,hj,rfl⟩,rfl⟩ :=hrel
  have cj:=hD.c j oM
  have:(j:Int)<(A.length:Int):=oM
  by_cases hlt:j<t
  ·have d2:(((A[j]'oM:Nat):Int)==0)=true:=by rw [ht3.out j (by omega) hlt];rfl
   go_wp2_with fail
   go_roundg (t-(j+1))
   case measure=>go_light;omega
   case rel=>go_light;exact ⟨⟨j+1,by go_num,by omega,rfl⟩,rfl⟩
  ·obtain rfl:j=t:=oM
   have d2:(((A[j]'oM:Nat):Int)==0)=false:=by rw [beq_eq_false_iff_ne];omega
   go_wp2_with fail
   go_ret
   exact ⟨rfl,hB0.out⟩
theorem rlow_any(mi:Bool)(A:List Nat)(g c:Nat)(P E:Int)(hA:A.length≤1000)(hc:A.length≤c)(hP:0≤P∧P≤1000)(hE:-2000000000000≤E∧E≤2000000000000)(hn:shut A≠[])(w:World)(h:Dr A g w): Calls prog 21 #[.agg #[.bool mi,.slice (some ⟨g,0,none⟩) A.length c,.int .i64 P,.int .i64 E]] w fun e w'=>e=.returned (.int .i64 (rlow A (P+E)))∧Below w.heap.size w w':=by
 obtain ⟨t,ht1,ht2,ht3⟩ :=last_nz A hn
 have hr:rlow A (P+E)=P+E-1-(t:Int):=by unfold rlow;rw [shutlen_of A t ht1 (fun j h hl=>ht3.out j h hl) ht2];omega
 rw [hr]
 have:IntKind.i64.wrap (P+E)=P+E:=IntWalk.i64_in _ oM
 have:IntKind.i64.wrap (P+E-1)=P+E-1:=IntWalk.i64_in _ oM
 have:IntKind.i64.wrap (P+E-1-(t:Int))=P+E-1-(t:Int):=IntWalk.i64_in _ oM
 have:IntKind.i64.wrap ((A.length:Int)-1)=((A.length-1:Nat):Int):=by rw [IntWalk.i64_in _ (by omega)];omega
 go_enter func21,ntmps21
 go_wp2_with fail
 have hB0:Hid (Below w.heap.size w (w.alloc (.cells #[.bool mi,.slice (some ⟨g,0,none⟩) A.length c,.int .i64 P,.int .i64 E] 37))):=hid (qR.alloc qL _)
 have b0:(w.alloc (.cells #[.bool mi,.slice (some ⟨g,0,none⟩) A.length c,.int .i64 P,.int .i64 E] 37)).cell? ⟨w.heap.size,0,none⟩=some (.bool mi):=by simp [go_sem]
 have b1:(w.alloc (.cells #[.bool mi,.slice (some ⟨g,0,none⟩) A.length c,.int .i64 P,.int .i64 E] 37)).cell? ⟨w.heap.size,1,none⟩=some (.slice (some ⟨g,0,none⟩) A.length c):=by simp [go_sem]
 have b2:(w.alloc (.cells #[.bool mi,.slice (some ⟨g,0,none⟩) A.length c,.int .i64 P,.int .i64 E] 37)).cell? ⟨w.heap.size,2,none⟩=some (.int .i64 P):=by simp [go_sem]
 have b3:(w.alloc (.cells #[.bool mi,.slice (some ⟨g,0,none⟩) A.length c,.int .i64 P,.int .i64 E] 37)).cell? ⟨w.heap.size,3,none⟩=some (.int .i64 E):=by simp [go_sem]
 have hD:=h.below hB0.out
 have bl:w.heap.size<(w.alloc (.cells #[.bool mi,.slice (some ⟨g,0,none⟩) A.length c,.int .i64 P,.int .i64 E] 37)).heap.size:=by simp
 clear h
 generalize (w.alloc (.cells #[.bool mi,.slice (some ⟨g,0,none⟩) A.length c,.int .i64 P,.int .i64 E] 37))=w1 at hB0 b0 b1 b2 b3 hD bl ⊢
 generalize w.heap.size=B at b0 b1 b2 b3 bl ⊢
 have bl2:=hD.lt
 go_loopg [3] (A.length-1-t) (fun q v wr=>(∃j:Nat,v=.int .i64 (j:Nat)∧t≤j∧j<A.length∧q=j-t)∧wr=w1)
 case atStart=>exact ⟨⟨A.length-1,by go_num,by omega,by omega,by omega⟩,rfl⟩
 case round=>
  obtain ⟨⟨j,rfl,hj,hjl,rfl⟩,rfl⟩ :=hrel
  have cj:=hD.c j hjl
  have:(j:Int)<(A.length:Int):=oM
  by_cases hlt:t<j
  ·have d2:(((A[j]'oM:Nat):Int)==0)=true:=by rw [ht3.out j (by omega) hlt];rfl
   go_wp2_with fail
   go_roundg (j-1-t)
   case measure=>go_light;omega
   case rel=>go_light;exact ⟨⟨j-1,by go_num,by omega,by omega,by omega⟩,rfl⟩
  ·obtain rfl:j=t:=oM
   have d2:(((A[j]'oM:Nat):Int)==0)=false:=by rw [beq_eq_false_iff_ne];omega
   go_wp2_with fail
   go_ret
   exact ⟨rfl,hB0.out⟩
theorem rat_any(mi:Bool)(A:List Nat)(g c:Nat)(P E:Int)(hA:A.length≤1000)(hc:A.length≤c)(hP:0≤P∧P≤1000)(hE:-2000000000000≤E∧E≤2000000000000)(k:Int)(hk:-4000000000000≤k∧k≤4000000000000)(w:World)(h:Dr A g w): Calls prog 22 #[.agg #[.bool mi,.slice (some ⟨g,0,none⟩) A.length c,.int .i64 P,.int .i64 E],.int .i64 k] w fun e w'=>e=.returned (.int .i64 (rat A (P+E) k:Nat))∧Below w.heap.size w w':=by
 have:IntKind.i64.wrap (P+E)=P+E:=IntWalk.i64_in _ oM
 have:IntKind.i64.wrap (P+E-1)=P+E-1:=IntWalk.i64_in _ oM
 have hpt:IntKind.i64.wrap (P+E-1-k)=P+E-1-k:=IntWalk.i64_in _ oM
 by_cases h1:P+E-1-k<0
 ·have hr:rat A (P+E) k=0:=by unfold rat;rw [if_pos h1]
  rw [hr]
  have d1:decide (P+E-1-k<0)=true:=by rw [decide_eq_true_eq];exact h1
  go_enter func22,ntmps22
  go_wp2_with fail
  go_ret
  exact ⟨rfl,tq4⟩
 ·obtain ⟨i,hi⟩:∃i:Nat,P+E-1-k=(i:Int):=⟨(P+E-1-k).toNat,by omega⟩
  have hr:rat A (P+E) k=A.getD i 0:=by unfold rat;rw [if_neg h1,hi];rfl
  rw [hr]
  rw [hi] at hpt
  have:decide ((i:Int)<0)=false:=by rw [decide_eq_false_iff_not];omega
  by_cases h2:i<A.length
  ·have e:A.getD i 0=A[i]:=by simp [List.getD_eq_getElem?_getD,h2]
   rw [e]
   have d1:decide ((A.length:Int)≤(i:Int))=false:=by rw [decide_eq_false_iff_not];omega
   have:(i:Int)<(A.length:Int):=oM
   go_enter func22,ntmps22
   have glt:=h.lt
   have:g<w.heap.size+1:=oM
   have cj:=h.c i h2
   go_wp2_with fail
   go_ret
   exact ⟨rfl,tq4⟩
  ·have e:A.getD i 0=0:=by simp [List.getD_eq_getElem?_getD,List.getElem?_eq_none (show A.length≤i by omega)]
   rw [e]
   have d1:decide ((A.length:Int)≤(i:Int))=true:=by rw [decide_eq_true_eq];omega
   go_enter func22,ntmps22
   go_wp2_with fail
   go_ret
   exact ⟨rfl,tq4⟩
theorem rside_any(mi:Bool)(A:List Nat)(g c:Nat)(P E:Int)(hA:A.length≤1000)(hc:A.length≤c)(w:World)(h:Dr A g w): Calls prog 19 #[.agg #[.bool mi,.slice (some ⟨g,0,none⟩) A.length c,.int .i64 P,.int .i64 E]] w fun e w'=>e=.returned (.int .i64 (rside mi A))∧Below w.heap.size w w':=by
 have hz:=fun w h=>rzero_any mi A g c P E hA hc w h
 unfold rside
 by_cases hs:shut A=[]
 ·rw [if_pos hs]
  rw [show decide (shut A=[])=true from decide_eq_true hs] at hz
  go_enter func19,ntmps19
  go_wp2_with fail
  refine (hz _ (h.below tq4)).mono ?_;rintro e w1 ⟨rfl,hb⟩
  have HB:=bel_step (w:=w) tq4 hb
  go_wp2_with fail
  go_ret
  exact ⟨rfl,tq4⟩
 ·rw [if_neg hs]
  rw [show decide (shut A=[])=false from decide_eq_false hs] at hz
  cases mi
  all_goals
   go_enter func19,ntmps19
   go_wp2_with fail
   refine (hz _ (h.below tq4)).mono ?_;rintro e w1 ⟨rfl,hb⟩
   have q0:=hb.cell (p:=⟨w.heap.size,0,none⟩) sM
   simp [go_sem] at q0
   have HB:=bel_step (w:=w) tq4 hb
   go_wp2_with fail
   go_ret
   exact ⟨rfl,tq4⟩
end Nn
section
open Go.RowKit
theorem hp(s p:ByteArray)(r:Bool)(h:Lib.hasPrefix s.data.toList p.data.toList=r)(w:World): Calls prog 214 #[.string s,.string p] w fun e w'=>e=.returned (.bool r)∧w=w':=by
 have:=Tryz.strings_HasPrefix s p w
 rw [h] at this
 exact this.mono fun e w' ⟨h1,h2⟩ =>⟨h1,h2.symm⟩
theorem one_d(w:World): Calls prog 149 #[.string ⟨#[36,91,48,93]⟩] w fun e w'=>e=.returned (.tuple #[.agg #[.int .i64 1,.string ⟨#[36]⟩,.int .i64 0,.int .i64 0,.bool false],.int .i64 1,.int .i64 0])∧Below w.heap.size w w':=by
 go_enter func149,ntmps149
 go_wp2_with (first|(go_at_call 214;(first|refine (hp _ _ true (by decide) _).mono ?_|refine (hp _ _ false (by decide) _).mono ?_);rintro e w1 ⟨rfl,rfl⟩)|go_in|(refine wp_loop_unr 22 ?_;refine Unr.step ?_;intro U hU)|(refine Unr.step ?_;intro U hU))
 try simp only [Exit.inBlock,Exit.then]
 refine bodyPost_ret (v:=.tuple #[.agg #[.int .i64 1,.string ⟨#[36]⟩,.int .i64 0,.int .i64 0,.bool false],.int .i64 1,.int .i64 0]) (by simp [results,results149,go_sem]) rfl ⟨rfl,by repeat' (first|exact qR|refine Below.alloc ?_ (by simp <;> omega) _|refine Below.setCell ?_ (by simp <;> omega) _)⟩
theorem one_l(w:World): Calls prog 149 #[.string ⟨#[91,48,93]⟩] w fun e w'=>e=.returned (.tuple #[.agg #[.int .i64 1,.string ⟨#[91]⟩,.int .i64 0,.int .i64 0,.bool false],.int .i64 1,.int .i64 0])∧Below w.heap.size w w':=by
 go_enter func149,ntmps149
 go_wp2_with (first|(go_at_call 214;(first|refine (hp _ _ true (by decide) _).mono ?_|refine (hp _ _ false (by decide) _).mono ?_);rintro e w1 ⟨rfl,rfl⟩)|go_in|(refine wp_loop_unr 22 ?_;refine Unr.step ?_;intro U hU)|(refine Unr.step ?_;intro U hU))
 try simp only [Exit.inBlock,Exit.then]
 refine bodyPost_ret (v:=.tuple #[.agg #[.int .i64 1,.string ⟨#[91]⟩,.int .i64 0,.int .i64 0,.bool false],.int .i64 1,.int .i64 0]) (by simp [results,results149,go_sem]) rfl ⟨rfl,by repeat' (first|exact qR|refine Below.alloc ?_ (by simp <;> omega) _|refine Below.setCell ?_ (by simp <;> omega) _)⟩
theorem one_0(w:World): Calls prog 149 #[.string ⟨#[48,93]⟩] w fun e w'=>e=.returned (.tuple #[.agg #[.int .i64 3,.string ⟨#[]⟩,.int .i64 0,.int .i64 0,.bool false],.int .i64 1,.int .i64 0])∧Below w.heap.size w w':=by
 go_enter func149,ntmps149
 go_wp2_with (first|(go_at_call 214;(first|refine (hp _ _ true (by decide) _).mono ?_|refine (hp _ _ false (by decide) _).mono ?_);rintro e w1 ⟨rfl,rfl⟩)|go_in|(refine wp_loop_unr 22 ?_;refine Unr.step ?_;intro U hU)|(refine Unr.step ?_;intro U hU))
 try simp only [Exit.inBlock,Exit.then]
 refine bodyPost_ret (v:=.tuple #[.agg #[.int .i64 3,.string ⟨#[]⟩,.int .i64 0,.int .i64 0,.bool false],.int .i64 1,.int .i64 0]) (by simp [results,results149,go_sem]) rfl ⟨rfl,by repeat' (first|exact qR|refine Below.alloc ?_ (by simp <;> omega) _|refine Below.setCell ?_ (by simp <;> omega) _)⟩
theorem one_r(w:World): Calls prog 149 #[.string ⟨#[93]⟩] w fun e w'=>e=.returned (.tuple #[.agg #[.int .i64 1,.string ⟨#[93]⟩,.int .i64 0,.int .i64 0,.bool false],.int .i64 1,.int .i64 0])∧Below w.heap.size w w':=by
 go_enter func149,ntmps149
 go_wp2_with (first|(go_at_call 214;(first|refine (hp _ _ true (by decide) _).mono ?_|refine (hp _ _ false (by decide) _).mono ?_);rintro e w1 ⟨rfl,rfl⟩)|go_in|(refine wp_loop_unr 22 ?_;refine Unr.step ?_;intro U hU)|(refine Unr.step ?_;intro U hU))
 try simp only [Exit.inBlock,Exit.then]
 refine bodyPost_ret (v:=.tuple #[.agg #[.int .i64 1,.string ⟨#[93]⟩,.int .i64 0,.int .i64 0,.bool false],.int .i64 1,.int .i64 0]) (by simp [results,results149,go_sem]) rfl ⟨rfl,by repeat' (first|exact qR|refine Below.alloc ?_ (by simp <;> omega) _|refine Below.setCell ?_ (by simp <;> omega) _)⟩
end
namespace Nn
open Go.RowKit
open Np
theorem lead_in: ∀(A:List Nat) (j:Nat),j<lead A→A[j]?=some 0
 | [],j,h=>by simp [lead] at h
 | a::A,j,h=>by
  simp only [lead] at h
  split at h
  ·rename_i e
   rcases j with _|j
   ·simp [e]
   ·simpa using lead_in A j oM
  ·omega
theorem lead_out: ∀(A:List Nat),A[lead A]?≠some 0
 | []=>by simp
 | a::A=>by
  simp only [lead]
  split
  ·simpa using lead_out A
  ·rename_i e
   simpa using e
theorem shut_take: ∀(A:List Nat),A.take (shut A).length=shut A
 | []=>rfl
 | a::A=>by
  simp only [shut]
  split
  ·simp
  ·simpa using shut_take A
theorem shut_out: ∀(A:List Nat) (k:Nat),(shut A).length≤k→k<A.length→A[k]?=some 0
 | [],k,_,h=>by simp at h
 | a::A,k,h,hk=>by
  simp only [shut] at h
  split at h
  ·rename_i e
   rcases k with _|k
   ·simp [e.2]
   ·simp at hk
    simpa using shut_out A k (by rw [e.1];simp) hk
  ·rcases k with _|k
   ·simp at h
   ·simp at h hk
    simpa using shut_out A k h hk
theorem shut_in(A:List Nat)(h:shut A≠[]): A[(shut A).length-1]?≠some 0:=by
 have he:=shut_ends A h
 have:0<(shut A).length:=List.length_pos_iff.2 h
 have ht:=shut_take A
 rw [List.getLast_eq_getElem] at he
 intro hc
 apply he
 obtain ⟨n,hn⟩:∃n,(shut A).length=n:=⟨_,rfl⟩
 have h3:(A.take n)[n-1]?=some 0:=by
  rw [List.getElem?_take,if_pos (by omega),←hn];exact hc
 rw [hn] at ht
 rw [ht] at h3
 obtain ⟨h4,h5⟩ :=List.getElem?_eq_some_iff.1 h3
 simp only [hn]
 exact h5
theorem shut_lead0(A:List Nat): shut A=[]↔shut (A.drop (lead A))=[]:=by
 constructor
 ·intro h
  rw [shut_drop,h];simp
 ·intro h
  by_cases h2:shut A=[]
  ·exact h2
  ·exact absurd h (shut_lead A h2).1
theorem dig_at(l:List UInt8)(k:Nat): (dig l)[k]?=(l[k]?).map dv:=by simp [dig]
theorem dv_zero{b:UInt8}(h:Dg b): dv b=0↔b=48:=by
 unfold dv
 constructor
 ·intro h1
  have:b.toNat=48:=by have:=h.1;omega
  exact UInt8.toNat_inj.1 this
 ·rintro rfl;rfl
end Nn
end Go.Proofs.YtjcioljdlfdnbaaGreatDoor
