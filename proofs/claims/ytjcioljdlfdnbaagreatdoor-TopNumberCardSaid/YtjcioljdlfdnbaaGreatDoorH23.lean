/- Part 23: lemmas for TopNumber; no conditions. -/
import Derived.Test.YtjcioljdlfdnbaaGreatDoorH18
import Derived.Test.YtjcioljdlfdnbaaGreatDoorH22
set_option linter.unusedVariables false
set_option linter.unusedSimpArgs false
set_option maxRecDepth 100000
set_option maxHeartbeats 2000000
open Go.Proofs.Tryz
namespace Go.Proofs.YtjcioljdlfdnbaaGreatDoor
namespace Nn
open Go.RowKit
open Np
theorem one_num(s:ByteArray)(c:UInt8)(l:List UInt8)(hl:s.data.toList=c::l)(hc:Dg c∨c=45)(V N:Int)(hN:∀W:World,Calls prog 211 #[.string s] W fun e w'=>e=.returned (.tuple #[.int .i64 V,.int .i64 N,.int .i64 0])∧Below W.heap.size W w')(w:World): Calls prog 149 #[.string s] w fun e w'=>e=.returned (.tuple #[.agg #[.int .i64 3,.string ⟨#[]⟩,.int .i64 V,.int .i64 0,.bool false],.int .i64 N,.int .i64 0])∧Below w.heap.size w w':=by
 have hz:0<s.size:=by rw [Lib.size_eq,hl];simp
 have h0:s[0]'hz=c:=by
  have:s.data.toList[0]?=some c:=by rw [hl];rfl
  obtain ⟨_,h⟩ :=List.getElem?_eq_some_iff.1 this
  exact h
 have hX:=idx_run s 0 hz 0 rfl
 rw [h0] at hX
 have key:∀b:Bool,decide (Dg c)=b→((c.toNat:Nat):Int)≠34→((c.toNat:Nat):Int)≠39→(b=true∨((c.toNat:Nat):Int)=45)→Calls prog 149 #[.string s] w fun e w'=>e=.returned (.tuple #[.agg #[.int .i64 3,.string ⟨#[]⟩,.int .i64 V,.int .i64 0,.bool false],.int .i64 N,.int .i64 0])∧Below w.heap.size w w':=by
  intro b hb k1 k2 k3
  have hD:=qdigit_any c
  rw [hb] at hD
  obtain ⟨v,hv⟩:∃v:Int,((c.toNat:Nat):Int)=v:=⟨_,rfl⟩
  simp only [hv] at hX hD k1 k2 k3
  have e1:(v==34)=false:=by rw [beq_eq_false_iff_ne];exact k1
  have e2:(v==39)=false:=by rw [beq_eq_false_iff_ne];exact k2
  clear hl h0 hv hb k1 k2
  have HK3:=hid k3
  clear k3
  cases b with
  | true=>
   go_enter func149,ntmps149
   go_wp2_with (first|(go_at_call 210;refine (hD _).mono ?_;rintro e w1 ⟨rfl,rfl⟩))
   refine (hN _).mono ?_;rintro e w1 ⟨rfl,hb⟩
   have bl:w.heap.size<w1.heap.size:=by have:=hb.size;simp at this;omega
   have HB:=bel_step (w:=w) tq4 hb
   have r0:=hb.cell (p:=⟨w.heap.size,0,none⟩) sM;simp [go_sem] at r0
   have z0:=hb.frozen (p:=⟨w.heap.size,0,none⟩) sM;simp [go_sem] at z0
   have r1:=hb.cell (p:=⟨w.heap.size,1,none⟩) sM;simp [go_sem] at r1
   have z1:=hb.frozen (p:=⟨w.heap.size,1,none⟩) sM;simp [go_sem] at z1
   have r2:=hb.cell (p:=⟨w.heap.size,2,none⟩) sM;simp [go_sem] at r2
   have z2:=hb.frozen (p:=⟨w.heap.size,2,none⟩) sM;simp [go_sem] at z2
   have r3:=hb.cell (p:=⟨w.heap.size,3,none⟩) sM;simp [go_sem] at r3
   have z3:=hb.frozen (p:=⟨w.heap.size,3,none⟩) sM;simp [go_sem] at z3
   have r4:=hb.cell (p:=⟨w.heap.size,4,none⟩) sM;simp [go_sem] at r4
   have z4:=hb.frozen (p:=⟨w.heap.size,4,none⟩) sM;simp [go_sem] at z4
   clear hb
   go_wp2_with fail
   try simp only [Exit.inBlock,Exit.then]
   refine bodyPost_ret (v:=.tuple #[.agg #[.int .i64 3,.string ⟨#[]⟩,.int .i64 V,.int .i64 0,.bool false],.int .i64 N,.int .i64 0]) (by simp [results,results149,go_sem, *]) rfl ⟨rfl,tq4⟩
  | false=>
   have e3:(v==45)=true:=by
    rcases HK3.out with h|h
    ·cases h
    ·rw [h];rfl
   go_enter func149,ntmps149
   go_wp2_with (first|(go_at_call 210;refine (hD _).mono ?_;rintro e w1 ⟨rfl,rfl⟩))
   refine (hN _).mono ?_;rintro e w1 ⟨rfl,hb⟩
   have bl:w.heap.size<w1.heap.size:=by have:=hb.size;simp at this;omega
   have HB:=bel_step (w:=w) tq4 hb
   have r0:=hb.cell (p:=⟨w.heap.size,0,none⟩) sM;simp [go_sem] at r0
   have z0:=hb.frozen (p:=⟨w.heap.size,0,none⟩) sM;simp [go_sem] at z0
   have r1:=hb.cell (p:=⟨w.heap.size,1,none⟩) sM;simp [go_sem] at r1
   have z1:=hb.frozen (p:=⟨w.heap.size,1,none⟩) sM;simp [go_sem] at z1
   have r2:=hb.cell (p:=⟨w.heap.size,2,none⟩) sM;simp [go_sem] at r2
   have z2:=hb.frozen (p:=⟨w.heap.size,2,none⟩) sM;simp [go_sem] at z2
   have r3:=hb.cell (p:=⟨w.heap.size,3,none⟩) sM;simp [go_sem] at r3
   have z3:=hb.frozen (p:=⟨w.heap.size,3,none⟩) sM;simp [go_sem] at z3
   have r4:=hb.cell (p:=⟨w.heap.size,4,none⟩) sM;simp [go_sem] at r4
   have z4:=hb.frozen (p:=⟨w.heap.size,4,none⟩) sM;simp [go_sem] at z4
   clear hb
   go_wp2_with fail
   try simp only [Exit.inBlock,Exit.then]
   refine bodyPost_ret (v:=.tuple #[.agg #[.int .i64 3,.string ⟨#[]⟩,.int .i64 V,.int .i64 0,.bool false],.int .i64 N,.int .i64 0]) (by simp [results,results149,go_sem, *]) rfl ⟨rfl,tq4⟩
 rcases hc with h|h
 ·have:=h.1;have:=h.2
  exact key true (decide_eq_true h) oM oM (.inl rfl)
 ·subst h
  exact key _ rfl (by decide) (by decide) (.inr rfl)
theorem ofN_toNat(k:Nat)(h:k<10): (UInt8.ofNat (48+k)).toNat=48+k:=by
 rw [UInt8.toNat_ofNat'];omega
theorem dec_facts(u:Nat): (∀b∈Lib.decDigits u,Dg b)∧val (Lib.decDigits u)=u∧1≤(Lib.decDigits u).length∧(u=0∨(Lib.decDigits u).head?≠some 48)∧((Lib.decDigits u).length=1∨(Lib.decDigits u).head?≠some 48):=by
 induction u using Nat.strongRecOn with
 | _ u ih=>
  by_cases h:u<10
  ·rw [Lib.decDigits_one h]
   have ht:=ofN_toNat u h
   generalize UInt8.ofNat (48+u)=d at ht ⊢
   refine ⟨?_,?_,qL,?_,.inl rfl⟩
   ·intro b hb;simp at hb;subst hb;exact ⟨by rw [ht];omega,by rw [ht];omega⟩
   ·show 0 * 10+dv _=u;unfold dv;rw [ht];omega
   ·by_cases h0:u=0
    ·exact .inl h0
    ·right;intro e;injection e with e;rw [e] at ht;have:(48:UInt8).toNat=48:=rfl;omega
  ·obtain ⟨i1,i2,i3,i4,-⟩ :=ih (u / 10) oM
   have ht:=ofN_toNat (u % 10) oM
   rw [dec_step u h]
   generalize UInt8.ofNat (48+u % 10)=d at ht ⊢
   have hh:(Lib.decDigits (u / 10)++[d]).head?≠some 48:=by
    cases hd:Lib.decDigits (u / 10) with
    | nil=>rw [hd] at i3;simp at i3
    | cons a l=>
     rcases i4 with i4|i4
     ·omega
     ·rw [hd] at i4;simpa using i4
   refine ⟨?_,?_,?_,.inr hh,.inr hh⟩
   ·intro b hb
    rcases List.mem_append.1 hb with hb|hb
    ·exact i1 b hb
    ·simp at hb;subst hb;exact ⟨by rw [ht];omega,by rw [ht];omega⟩
   ·unfold val at i2 ⊢
    rw [List.foldl_append,i2]
    show u / 10 * 10+dv _=u
    unfold dv;rw [ht];omega
   ·rw [List.length_append];omega
theorem drop_add(s:List UInt8)(k:Nat)(x r:List UInt8)(h:s.drop k=x++r): s.drop (k+x.length)=r:=by
 rw [←List.drop_drop,h,List.drop_left]
theorem lx_s(s:ByteArray)(hs:s.size≤4096)(k i:Nat)(hi:i∈usd)(x:ByteArray)(hx:sgs[i]?=some x)(r:List UInt8)(hl:s.data.toList.drop k=x.data.toList++r)(hr:i=19∨i=20→r.head?≠some 61)(ts:List Tok)(h:s.data.toList.drop (k+x.size)=r→LexAt s (k+x.size) ts): LexAt s k (⟨1,x,0,(k:Nat)⟩ ::ts):=
 lx_sign s hs k i hi x hx r hl hr ts (h (by rw [Lib.size_eq];exact drop_add _ _ _ _ hl))
theorem itoa_head(n:Int)(r:List UInt8): ∃c l,Lib.itoa n++r=c::l∧(Dg c∨c=45):=by
 unfold Lib.itoa
 split
 ·exact ⟨45,_,rfl,.inr rfl⟩
 ·obtain ⟨h1,-,h3,-⟩ :=dec_facts n.toNat
  cases hd:Lib.decDigits n.toNat with
  | nil=>rw [hd] at h3;simp at h3
  | cons a l=>exact ⟨a,l++r,rfl,.inl (h1 a (by rw [hd];simp))⟩
theorem lx_n(s:ByteArray)(hs:s.size≤4096)(k:Nat)(n:Int)(hn:n.natAbs≤9007199254740991)(r:List UInt8)(hl:s.data.toList.drop k=Lib.itoa n++r)(hr:∀b,r.head?=some b→¬Dg b)(ts:List Tok)(h:s.data.toList.drop (k+(Lib.itoa n).length)=r→LexAt s (k+(Lib.itoa n).length) ts): LexAt s k (⟨3,⟨#[]⟩,n,(k:Nat)⟩ ::ts):=by
 have hR:=ex_list s k
 rw [hl] at hR
 obtain ⟨c,l,hcl,hc⟩ :=itoa_head n r
 have hlen:s.size-k=(Lib.itoa n).length+r.length:=by
  have:=congrArg List.length hl
  rw [List.length_drop,←Lib.size_eq,List.length_append] at this
  exact this
 have hpos:0<(Lib.itoa n).length:=by
  unfold Lib.itoa;split
  ·simp
  ·exact (dec_facts n.toNat).2.2.1
 refine .cons k (Lib.itoa n).length ⟨3,⟨#[]⟩,n,(k:Nat)⟩ ts hpos oM ?_ rfl ?_ (h (drop_add _ _ _ _ hl))
 ·rw [hR,hcl]
  refine dropWhile_no _ _ ?_
  intro b hb
  simp at hb
  subst hb
  rcases hc with hc|hc
  ·have h1:=hc.1
   have h2:=hc.2
   have g:∀m:UInt8,m.toNat<48→(c==m)=false:=fun m hm=>by rw [beq_eq_false_iff_ne];rintro rfl;omega
   simp [g]
   refine ⟨?_,?_,?_,?_⟩ <;> (rintro rfl;simp at h1)
  ·subst hc;decide
 ·intro W
  refine one_num (s.extract k s.size) c l (by rw [hR,hcl]) hc n _ (fun W=>?_) W
  have hsz:(s.extract k s.size).size≤4096:=by simp;omega
  have hcase:n<0∨0≤n:=oM
  rcases hcase with h0|h0
  ·obtain ⟨d1,d2,d3,d4,-⟩ :=dec_facts n.natAbs
   have hi:Lib.itoa n=45::Lib.decDigits n.natAbs:=by unfold Lib.itoa;rw [if_pos h0]
   have:=numOf_neg (s.extract k s.size) hsz (Lib.decDigits n.natAbs) r (by rw [hR,hi];rfl) d1 d3 (by rcases d4 with d4|d4;omega;exact d4) hr (by rw [d2];omega) W
   rw [d2,show (-((n.natAbs:Nat):Int))=n by omega] at this
   rw [hi]
   rw [show (((45::Lib.decDigits n.natAbs).length:Nat):Int)=1+((Lib.decDigits n.natAbs).length:Int) by simp;omega]
   exact this
  ·obtain ⟨d1,d2,d3,-,d5⟩ :=dec_facts n.toNat
   have hi:Lib.itoa n=Lib.decDigits n.toNat:=by unfold Lib.itoa;rw [if_neg (by omega)]
   have:=numOf_pos (s.extract k s.size) hsz (Lib.decDigits n.toNat) r (by rw [hR,hi]) d1 d3 d5 hr (by rw [d2];omega) W
   rw [d2,show ((n.toNat:Nat):Int)=n by omega] at this
   rw [hi]
   exact this
theorem ops_sgs(i:Nat)(op:ByteArray)(h:opsL[i]?=some op): ∃j∈usd,sgs[j]?=some op∧∀r:List UInt8,∀b,(op.data.toList++r).head?=some b→¬Dg b:=by
 have:i<6:=by
  obtain ⟨h,-⟩ :=List.getElem?_eq_some_iff.1 h
  exact h
 obtain rfl|rfl|rfl|rfl|rfl|rfl:i=0∨i=1∨i=2∨i=3∨i=4∨i=5:=oM
 all_goals (simp only [opsL,List.getElem?_cons_succ,List.getElem?_cons_zero,Option.some.injEq] at h;subst h)
 ·exact ⟨3,by decide,rfl,fun r b hb=>by simp at hb;subst hb;decide⟩
 ·exact ⟨4,by decide,rfl,fun r b hb=>by simp at hb;subst hb;decide⟩
 ·exact ⟨19,by decide,rfl,fun r b hb=>by simp at hb;subst hb;decide⟩
 ·exact ⟨5,by decide,rfl,fun r b hb=>by simp at hb;subst hb;decide⟩
 ·exact ⟨20,by decide,rfl,fun r b hb=>by simp at hb;subst hb;decide⟩
 ·exact ⟨6,by decide,rfl,fun r b hb=>by simp at hb;subst hb;decide⟩
def tokA (op:ByteArray) (n:Int):List Tok:=[⟨1,⟨#[36]⟩,0,0⟩,⟨1,⟨#[91]⟩,0,1⟩,⟨1,⟨#[63]⟩,0,2⟩,⟨1,⟨#[64]⟩,0,3⟩,⟨1,op,0,((4:Nat):Int)⟩,⟨3,⟨#[]⟩,n,((4+op.size:Nat):Int)⟩,⟨1,⟨#[93]⟩,0,((4+op.size+(Lib.itoa n).length:Nat):Int)⟩]
def tokB (op:ByteArray) (n:Int):List Tok:=[⟨1,⟨#[36]⟩,0,0⟩,⟨1,⟨#[91]⟩,0,1⟩,⟨1,⟨#[63]⟩,0,2⟩,⟨3,⟨#[]⟩,n,((3:Nat):Int)⟩,⟨1,op,0,((3+(Lib.itoa n).length:Nat):Int)⟩,⟨1,⟨#[64]⟩,0,((3+(Lib.itoa n).length+op.size:Nat):Int)⟩,⟨1,⟨#[93]⟩,0,((3+(Lib.itoa n).length+op.size+1:Nat):Int)⟩]
theorem head_ne(n:Int)(r:List UInt8): (Lib.itoa n++r).head?≠some 61:=by
 obtain ⟨c,l,h,hc⟩ :=itoa_head n r
 rw [h]
 intro e
 simp at e
 subst e
 rcases hc with hc|hc
 ·exact absurd hc.2 (by decide)
 ·exact absurd hc (by decide)
theorem lexA(q:ByteArray)(hs:q.size≤4096)(i:Nat)(op:ByteArray)(hop:opsL[i]?=some op)(n:Int)(hn:n.natAbs≤9007199254740991)(hq:q.data.toList=36::91::63::64::(op.data.toList++(Lib.itoa n++[93]))): LexAt q 0 (tokA op n):=by
 obtain ⟨j,hj,hjx,hjd⟩ :=ops_sgs i op hop
 refine lx_s q hs 0 7 (by decide) ⟨#[36]⟩ rfl _ (by rw [hq];rfl) (by intro h;omega) _ fun h1=>?_
 refine lx_s q hs 1 10 (by decide) ⟨#[91]⟩ rfl _ (by rw [show 0+(⟨#[36]⟩:ByteArray).size=1 from rfl] at h1;rw [h1];rfl) (by intro h;omega) _ fun h2=>?_
 refine lx_s q hs 2 17 (by decide) ⟨#[63]⟩ rfl _ (by rw [show 1+(⟨#[91]⟩:ByteArray).size=2 from rfl] at h2;rw [h2];rfl) (by intro h;omega) _ fun h3=>?_
 refine lx_s q hs 3 8 (by decide) ⟨#[64]⟩ rfl (op.data.toList++(Lib.itoa n++[93])) (by rw [show 2+(⟨#[63]⟩:ByteArray).size=3 from rfl] at h3;rw [h3];rfl) (by intro h;omega) _ fun h4=>?_
 ·rw [show 3+(⟨#[64]⟩:ByteArray).size=4 from rfl] at h4 ⊢
  refine lx_s q hs 4 j hj op hjx _ h4 (fun _=>head_ne _ _) _ fun h5=>?_
  refine lx_n q hs (4+op.size) n hn [93] h5 (by intro b hb;simp at hb;subst hb;decide) _ fun h6=>?_
  refine lx_s q hs _ 11 (by decide) ⟨#[93]⟩ rfl [] h6 (by decide) _ fun h7=>?_
  refine .nil _ ?_
  have:=congrArg List.length h7
  rw [List.length_drop,←Lib.size_eq] at this
  have hz:=congrArg List.length hq
  rw [←Lib.size_eq] at hz
  have h8:(⟨#[93]⟩:ByteArray).size=1:=rfl
  simp at hz this
  have h9:op.size=op.data.toList.length:=Lib.size_eq op
  simp at h9
  omega
theorem lexB(q:ByteArray)(hs:q.size≤4096)(i:Nat)(op:ByteArray)(hop:opsL[i]?=some op)(n:Int)(hn:n.natAbs≤9007199254740991)(hq:q.data.toList=36::91::63::(Lib.itoa n++(op.data.toList++[64,93]))): LexAt q 0 (tokB op n):=by
 obtain ⟨j,hj,hjx,hjd⟩ :=ops_sgs i op hop
 refine lx_s q hs 0 7 (by decide) ⟨#[36]⟩ rfl _ (by rw [hq];rfl) (by intro h;omega) _ fun h1=>?_
 refine lx_s q hs 1 10 (by decide) ⟨#[91]⟩ rfl _ (by rw [show 0+(⟨#[36]⟩:ByteArray).size=1 from rfl] at h1;rw [h1];rfl) (by intro h;omega) _ fun h2=>?_
 refine lx_s q hs 2 17 (by decide) ⟨#[63]⟩ rfl (Lib.itoa n++(op.data.toList++[64,93])) (by rw [show 1+(⟨#[91]⟩:ByteArray).size=2 from rfl] at h2;rw [h2];rfl) (by intro h;omega) _ fun h3=>?_
 ·rw [show 2+(⟨#[63]⟩:ByteArray).size=3 from rfl] at h3 ⊢
  refine lx_n q hs 3 n hn (op.data.toList++[64,93]) h3 (hjd _) _ fun h4=>?_
  refine lx_s q hs _ j hj op hjx [64,93] h4 (fun _=>by simp) _ fun h5=>?_
  refine lx_s q hs _ 8 (by decide) ⟨#[64]⟩ rfl [93] h5 (by decide) _ fun h6=>?_
  refine lx_s q hs _ 11 (by decide) ⟨#[93]⟩ rfl [] h6 (by decide) _ fun h7=>?_
  refine .nil _ ?_
  have:=congrArg List.length h7
  rw [List.length_drop,←Lib.size_eq] at this
  have hz:=congrArg List.length hq
  rw [←Lib.size_eq] at hz
  have h8:(⟨#[93]⟩:ByteArray).size=1:=rfl
  have h8':(⟨#[64]⟩:ByteArray).size=1:=rfl
  simp at hz this
  have h9:op.size=op.data.toList.length:=Lib.size_eq op
  simp at h9
  omega
end Nn
section
open Go.RowKit
theorem info63: (prog.info? 68).map (fun i=>(i.zero,i.size,i.bytes))=some (some (.agg #[.int .i64 0,.int .i64 0,.int .i64 0,.int .i64 0]),4,32):=by kernel_rfl
theorem info64: (prog.info? 69).map (fun i=>(i.zero,i.size,i.bytes))=some (some (.pointer none),1,8):=by kernel_rfl
theorem records_1(T:ByteArray)(n L:Nat)(c:Int)(hT:ScT T n L c)(h10:T.data.toList.contains 10=false)(dp:Nat)(hd:1≤dp)(hd2:dp≤4096)(w:World): Calls prog 23 #[.string T,.int .i64 (dp:Nat)] w fun e w'=>∃g cc,e=.returned (.tuple #[.slice (some ⟨g,0,none⟩) 1 cc,.int .i64 0])∧Lr n 1 g w'∧Below w.heap.size w w':=by
 have hn:=hT.hn
 subst hn
 have h1:=hT.h1
 have hs:T.size≤100000:=oM
 have hpos:=hT.k0
 have H10:=hid h10
 clear h10
 have hall:∀W:World,(Instr.slice 9 (.string T) (some (.int .i64 0)) (some (.int .i64 (T.size:Nat))) none).run prog W=.ok (.string T) W:=fun W=>slice_eq T T 0 T.size oM qL (ext_all T) W
 have e1:¬(dp:Int)<1:=oM
 have e2:¬(4096:Int)<(dp:Int):=oM
 obtain ⟨i0,hi0,hz0,hs0,hb0⟩ :=info_parts info63
 go_enter func23,ntmps23
 go_wp2_with fail
 refine (lines_1 T hs hpos H10.out _).mono ?_;rintro e w1 ⟨g,cc,rfl,hG,Z1⟩
 obtain ⟨gl,g0,g1⟩ :=id hG
 have gl1:g<w1.heap.size+1:=oM
 go_wp2_with (first|(refine wp_loop_unr 3 ?_;refine Unr.step ?_;intro U hU)|(refine Unr.step ?_;intro U hU))
 refine (validate_1 T _ L c hT dp hd hd2 _).mono ?_;rintro e w2 ⟨rfl,hb⟩
 have k0:=hb.cell (p:=⟨w1.heap.size,0,none⟩) sM;simp [go_sem] at k0
 have k1:=hb.cell (p:=⟨w1.heap.size,1,none⟩) sM;simp [go_sem] at k1
 have Z2:Below w.heap.size w w2:=(Z1.alloc Z1.size _).trans (hb.mono (by have:=Z1.size;simp;omega))
 have kl:w1.heap.size<w2.heap.size:=by have:=hb.size;simp at this;omega
 clear gl gl1 g0 g1 hb
 go_wp2_with (first|(at_builtin;refine wpList_push rfl _ _ 59 rfl 68 i0 _ 4 32 underlying59 hi0 hz0 hs0 hb0 rfl oM (Acc.nil qR 68 4) rfl rfl sM rfl rfl oM oM ?_;intro gr cr w3 hA;have Z3:=Z2.trans (hA.bel.mono Z2.size);have hr:=hA.row;have hL:Lr T.size 1 gr w3:=⟨hr.2.1,hr.2.2 0 _ rfl,hr.2.2 1 _ rfl,hr.2.2 2 _ rfl,hr.2.2 3 _ rfl⟩;clear hr hA)|(refine wp_loop_unr 3 ?_;refine Unr.step ?_;intro U hU)|(refine Unr.step ?_;intro U hU))
 go_ret2
 exact ⟨gr,cr,rfl,hL,Z3⟩
theorem text_0(T:ByteArray)(hs:T.size≤100000)(v a:Int)(w:World): Calls prog 25 #[.string T,.agg #[.int .i64 0,.int .i64 (T.size:Nat),.int .i64 v,.int .i64 a]] w fun e w'=>e=.returned (.string T)∧Below w.heap.size w w':=by
 have:∀W:World,(Instr.slice 9 (.string T) (some (.int .i64 0)) (some (.int .i64 (T.size:Nat))) none).run prog W=.ok (.string T) W:=fun W=>slice_eq T T 0 T.size oM qL (ext_all T) W
 have:min (0:Int) (T.size:Int)=0:=oM
 have:max (T.size:Int) 0=(T.size:Int):=oM
 have:min (T.size:Int) (T.size:Int)=(T.size:Int):=oM
 go_enter func25,ntmps25
 go_wp2_with fail
 go_ret
 exact ⟨rfl,tq4⟩
structure Alt (w w':World) (s:Nat) (T0:ByteArray):Prop where
 size:w.heap.size≤w'.heap.size
 cell:∀a:Addr,a.block≠s→w'.cell? a=w.cell? a
 s0:w.cell? ⟨s,0,none⟩=some (.string T0)
 s3:w.cell? ⟨s,3,none⟩=some (.slice none 0 0)
theorem Alt.ne{w w':World}{s:Nat}{T0:ByteArray}(h:Alt w w' s T0){a:Nat}{v:Value}(hc:w.cell? ⟨a,0,none⟩=some v)(hv:∀t,v≠.string t): a≠s:=by
 rintro rfl;rw [h.s0] at hc;injection hc with e;exact hv _ e.symm
theorem Alt.ne3{w w':World}{s:Nat}{T0:ByteArray}(h:Alt w w' s T0){a:Nat}{v:Value}(hc:w.cell? ⟨a,3,none⟩=some v)(hv:v≠.slice none 0 0): a≠s:=by
 rintro rfl;rw [h.s3] at hc;injection hc with e;exact hv e.symm
theorem Rw.alt{w w':World}{s b x n:Nat}{T0:ByteArray}(h:Rw w b x n)(A:Alt w w' s T0): Rw w' b x n:=by
 obtain ⟨g,cap,h1,h2,h3,h4,h5⟩ :=h
 have nb:=A.ne h1 (fun _ e=>by cases e)
 have ng:=A.ne h3 (fun _ e=>by cases e)
 exact ⟨g,cap,(A.cell ⟨b,0,none⟩ nb).trans h1,(A.cell ⟨b,1,none⟩ nb).trans h2,(A.cell ⟨g,0,none⟩ ng).trans h3,Nat.lt_of_lt_of_le h4 A.size,Nat.lt_of_lt_of_le h5 A.size⟩
theorem R0.alt{w w':World}{s b:Nat}{T0:ByteArray}(h:R0 w b)(A:Alt w w' s T0): R0 w' b:=by
 obtain ⟨h1,h2,h3⟩ :=h
 have nb:=A.ne h2 (fun _ e=>by cases e)
 exact ⟨Nat.lt_of_lt_of_le h1 A.size,(A.cell ⟨b,0,none⟩ nb).trans h2,(A.cell ⟨b,1,none⟩ nb).trans h3⟩
theorem Low.alt{w w':World}{s b n:Nat}{T0:ByteArray}(h:Low w b n)(A:Alt w w' s T0): Low w' b n:=⟨fun e=>(h.1 e).alt A,fun e=>(h.2 e).alt A⟩
theorem Tr.alt{w w':World}{s p b:Nat}{T0:ByteArray}(h:Tr w p b)(A:Alt w w' s T0): Tr w' p b:=by
 obtain ⟨G,h1,h2,c0,c1,c2,g3,g4⟩ :=h
 have np:=A.ne c0 (fun _ e=>by cases e)
 have ng:=A.ne3 g3 (fun e=>by cases e)
 exact ⟨G,Nat.lt_of_lt_of_le h1 A.size,Nat.lt_of_lt_of_le h2 A.size,(A.cell ⟨p,0,none⟩ np).trans c0,(A.cell ⟨p,1,none⟩ np).trans c1,(A.cell ⟨p,2,none⟩ np).trans c2,(A.cell ⟨G,3,none⟩ ng).trans g3,(A.cell ⟨G,4,none⟩ ng).trans g4⟩
theorem Dr.alt{w w':World}{s p b:Nat}{T0:ByteArray}(h:Dr w p b)(A:Alt w w' s T0): Dr w' p b:=by
 obtain ⟨G,cap,h1,h2,c0,c1,g0,g1⟩ :=h
 have np:=A.ne c0 (fun _ e=>by cases e)
 have ng:=A.ne g0 (fun _ e=>by cases e)
 exact ⟨G,cap,Nat.lt_of_lt_of_le h1 A.size,Nat.lt_of_lt_of_le h2 A.size,(A.cell ⟨p,0,none⟩ np).trans c0,(A.cell ⟨p,1,none⟩ np).trans c1,(A.cell ⟨G,0,none⟩ ng).trans g0,(A.cell ⟨G,1,none⟩ ng).trans g1⟩
theorem Ch.alt{w w':World}{s C b z:Nat}{T0:ByteArray}(h:Ch w C b z)(A:Alt w w' s T0): Ch w' C b z:=by
 obtain ⟨D,hD,G1,cap1,G0,cap0,a1,a2,a3,c0,c1,c2,c3,c4,g1,g0⟩ :=h
 have nc:=A.ne c0 (fun _ e=>by cases e)
 have n1:=A.ne g1 (fun _ e=>by cases e)
 have n0:=A.ne g0 (fun _ e=>by cases e)
 exact ⟨D,hD.alt A,G1,cap1,G0,cap0,Nat.lt_of_lt_of_le a1 A.size,Nat.lt_of_lt_of_le a2 A.size,Nat.lt_of_lt_of_le a3 A.size,(A.cell ⟨C,0,none⟩ nc).trans c0,(A.cell ⟨C,1,none⟩ nc).trans c1,(A.cell ⟨C,2,none⟩ nc).trans c2,(A.cell ⟨C,3,none⟩ nc).trans c3,(A.cell ⟨C,4,none⟩ nc).trans c4,(A.cell ⟨G1,0,none⟩ n1).trans g1,(A.cell ⟨G0,0,none⟩ n0).trans g0⟩
theorem Ns.alt{w w':World}{s p b:Nat}{T0:ByteArray}(h:Ns w p b)(A:Alt w w' s T0): Ns w' p b:=by
 obtain ⟨T,C,h1,c0,c1,c2,k1,k2,k3⟩ :=h
 have np:=A.ne c0 (fun _ e=>by cases e)
 exact ⟨T,C,Nat.lt_of_lt_of_le h1 A.size,(A.cell ⟨p,0,none⟩ np).trans c0,(A.cell ⟨p,1,none⟩ np).trans c1,(A.cell ⟨p,2,none⟩ np).trans c2,k1.alt A,k2.alt A,k3.alt A⟩
theorem Sq.alt{w w':World}{s p n:Nat}{T0:ByteArray}(h:Sq w p n)(A:Alt w w' s T0): Sq w' p n:=by
 obtain ⟨b,C,hb,h1,c0,c1,c2,c3,c4,k1,k2,k3⟩ :=h
 have np:=A.ne c0 (fun _ e=>by cases e)
 exact ⟨b,C,hb,Nat.lt_of_lt_of_le h1 A.size,(A.cell ⟨p,0,none⟩ np).trans c0,(A.cell ⟨p,1,none⟩ np).trans c1,(A.cell ⟨p,2,none⟩ np).trans c2,(A.cell ⟨p,3,none⟩ np).trans c3,(A.cell ⟨p,4,none⟩ np).trans c4,k1.alt A,k2.alt A,k3.alt A⟩
theorem Tab.alt{w w':World}{s:Nat}{T0:ByteArray}(h:Tab w)(A:Alt w w' s T0): Tab w':=by
 obtain ⟨h1,c0,c1,c2,c3⟩ :=h
 have n4:=A.ne c0 (fun _ e=>by cases e)
 exact ⟨Nat.lt_of_lt_of_le h1 A.size,(A.cell ⟨6,0,none⟩ n4).trans c0,(A.cell ⟨6,3,none⟩ n4).trans c1,(A.cell ⟨6,7,none⟩ n4).trans c2,(A.cell ⟨6,15,none⟩ n4).trans c3⟩
theorem Ix.alt{w w':World}{s p n:Nat}{T T0:ByteArray}(h:Ix w p T n)(A:Alt w w' s T0): Ix w' p T n:=by
 obtain ⟨sq,b,ns,h1,c0,c1,c2,c3,k1,k2,k3⟩ :=h
 have np:=A.ne c0 (fun _ e=>by cases e)
 exact ⟨sq,b,ns,Nat.lt_of_lt_of_le h1 A.size,(A.cell ⟨p,0,none⟩ np).trans c0,(A.cell ⟨p,1,none⟩ np).trans c1,(A.cell ⟨p,2,none⟩ np).trans c2,(A.cell ⟨p,3,none⟩ np).trans c3,k1.alt A,k2.alt A,k3.alt A⟩
theorem build_1(T:ByteArray)(n L:Nat)(c:Int)(hT:ScT T n L c)(h10:T.data.toList.contains 10=false)(dp:Nat)(hd:1≤dp)(hd2:dp≤4096)(hZ:Ms T 0 false [((0:Int),(91:Int)),((L:Int),(93:Int))])(w:World)(hTb:Tab w): Calls prog 13 #[.string T,.int .i64 (dp:Nat)] w fun e w'=>∃s p,e=.returned (.tuple #[.pointer (some ⟨s,0,none⟩),.int .i64 0])∧Se w' s p n∧Ix w' p T n∧Below w.heap.size w w':=by
 have hn:=hT.hn
 subst hn
 have h1:=hT.h1
 have hs:T.size≤100000:=oM
 have hpos:=hT.k0
 have H10:=hid h10
 clear h10
 have hall:∀W:World,(Instr.slice 9 (.string T) (some (.int .i64 0)) (some (.int .i64 (T.size:Nat))) none).run prog W=.ok (.string T) W:=fun W=>slice_eq T T 0 T.size oM qL (ext_all T) W
 obtain ⟨i0,hi0,hz0,hs0,hb0⟩ :=info_parts info64
 go_enter func13,ntmps13
 go_wp2_with fail
 refine (records_1 T T.size L c hT H10.out dp hd hd2 _).mono ?_;rintro e w1 ⟨g,cc,rfl,hG,Z1⟩
 obtain ⟨gl,g0,g1,g2,g3⟩ :=id hG
 have gl1:g<w1.heap.size+1:=oM
 have gl2:g<w1.heap.size+1+1:=oM
 have gl3:g<w1.heap.size+1+1+1:=oM
 go_wp2_with (first|(refine wp_loop_unr 3 ?_;refine Unr.step ?_;intro U hU)|(refine Unr.step ?_;intro U hU))
 refine (text_0 T hs 1 1 _).mono ?_;rintro e w2 ⟨rfl,hb⟩
 have Z2:Below w1.heap.size w1 w2:=((qR.alloc qL _).alloc sM _).trans (hb.mono (by simp;omega))
 have s0:=hb.cell (p:=⟨w1.heap.size,0,none⟩) (by simp;omega);simp [go_sem] at s0
 have s1:=hb.cell (p:=⟨w1.heap.size,1,none⟩) (by simp;omega);simp [go_sem] at s1
 have s2:=hb.cell (p:=⟨w1.heap.size,2,none⟩) (by simp;omega);simp [go_sem] at s2
 have s3:=hb.cell (p:=⟨w1.heap.size,3,none⟩) (by simp;omega);simp [go_sem] at s3
 have sz3:=hb.frozen (p:=⟨w1.heap.size,3,none⟩) (by simp;omega);simp [go_sem] at sz3
 have sl2:w1.heap.size<w2.heap.size:=by have:=hb.size;simp at this;omega
 clear gl gl1 gl2 gl3 g0 g1 g2 g3 hb
 go_wp2_with fail
 refine (make_1 T T.size L c hT hZ _ (hTb.below (Z1.trans (Z2.mono Z1.size)))).mono ?_;rintro e w3 ⟨p,rfl,Z3,hIx⟩
 replace s0:=(Z3.cell (p:=⟨w1.heap.size,0,none⟩) sl2).trans s0
 replace s1:=(Z3.cell (p:=⟨w1.heap.size,1,none⟩) sl2).trans s1
 replace s2:=(Z3.cell (p:=⟨w1.heap.size,2,none⟩) sl2).trans s2
 replace s3:=(Z3.cell (p:=⟨w1.heap.size,3,none⟩) sl2).trans s3
 replace sz3:=(Z3.frozen (p:=⟨w1.heap.size,3,none⟩) sl2).trans sz3
 have sl3:w1.heap.size<w3.heap.size:=Nat.lt_of_lt_of_le sl2 Z3.size
 have Zr:Below w1.heap.size w1 w3:=Z2.trans (Z3.mono Z2.size)
 have hG3:=hG.below Zr
 go_wp2_with (first|(at_builtin;refine wpList_push rfl _ _ 62 rfl 69 i0 _ 1 8 underlying62 hi0 hz0 hs0 hb0 rfl oM (Acc.nil qR 69 1) rfl rfl sM rfl rfl oM oM ?_;intro gr cr w4 hA;have Z4:=hA.bel;have hr:=hA.row;have hX:Xr p gr w4:=⟨hr.2.1,hr.2.2 0 _ rfl⟩;have hgr:w1.heap.size≠gr:=(by have:=hr.1;omega);replace s0:=(Z4.cell (p:=⟨w1.heap.size,0,none⟩) sl3).trans s0;replace s1:=(Z4.cell (p:=⟨w1.heap.size,1,none⟩) sl3).trans s1;replace s2:=(Z4.cell (p:=⟨w1.heap.size,2,none⟩) sl3).trans s2;replace s3:=(Z4.cell (p:=⟨w1.heap.size,3,none⟩) sl3).trans s3;replace sz3:=(Z4.frozen (p:=⟨w1.heap.size,3,none⟩) sl3).trans sz3;have sl4:w1.heap.size<w4.heap.size:=Nat.lt_of_lt_of_le sl3 Z4.size;have hG4:=hG3.below Z4;have hI4:=hIx.below Z4;clear hr hA)|(refine wp_loop_unr 3 ?_;refine Unr.step ?_;intro U hU)|(refine Unr.step ?_;intro U hU))
 go_ret2
 have hne:g≠w1.heap.size:=by have:=hG.lt;omega
 have hAlt:Alt w4 (w4.setCell ⟨w1.heap.size,3,none⟩ (.slice (some ⟨gr,0,none⟩) 1 cr)) w1.heap.size T:=⟨by simp [World.setCell],fun a ha=>qO (by rintro rfl;exact ha rfl),s0,s3⟩
 refine ⟨w1.heap.size,p,rfl,⟨T,dp,g,cc,gr,cr,1,⟨by simpa [World.setCell] using sl4,?_,?_,?_,?_⟩,hG4.set (a:=⟨w1.heap.size,3,none⟩) (Ne.symm hne) _,hX.set (a:=⟨w1.heap.size,3,none⟩) hgr _⟩,hI4.alt hAlt,(Z1.trans ((Zr.trans (Z4.mono Zr.size)).mono Z1.size)).setCell (p:=⟨w1.heap.size,3,none⟩) Z1.size _⟩
 ·exact (qO tq9).trans s0
 ·exact (qO tq9).trans s1
 ·exact (qO tq9).trans s2
 ·exact World.cell?_setCell_same' _ _ _ (by rw [s3];rfl)
theorem u51: prog.underlying 91=some (.map 9 89):=by kernel_rfl
theorem u9: prog.underlying 9=some .string:=by kernel_rfl
theorem run_ins{w:World}{b:Nat}{es:Array MapEntry}{cl:Nat}{k:ByteArray}{f:Value}(hb:w.heap[b]?=some (.map es cl))(hk:Instr.findNow .string (.string k) es.toList 0=some none):
  (Instr.mapUpdate 91 (.map (some b)) (.string k) f).run prog w=.ok () { w with heap:=w.heap.setIfInBounds b (.map (es.push { key:=.string k,val:=f,born:=cl }) (cl+1)) }:=by
 simp [Instr.mapUpdate,run_underlying u51,MapKept.run_getObj_map hb,MapKept.run_checkKey u9 (show MapKept.IsKey .string (.string k) from trivial),MapKept.run_findKey u9 hk,MapKept.run_setObj_map _ hb,Result.andThen]
theorem run_look{w:World}{b:Nat}{es:Array MapEntry}{cl:Nat}{k:ByteArray}{i:Nat}{f:Value}(hb:w.heap[b]?=some (.map es cl))(hk:Instr.findNow .string (.string k) es.toList 0=some (some (i,f))):
  (Instr.lookup 91 (.map (some b)) (.string k) true).run prog w=.ok (.tuple #[f,.bool true]) w:=by
 simp [Instr.lookup,run_underlying u51,MapKept.run_getObj_map hb,MapKept.run_checkKey u9 (show MapKept.IsKey .string (.string k) from trivial),MapKept.run_findKey u9 hk,Result.andThen]
theorem wpList_ins{ops:Array Oper}{rest:List Oper}{o:Oper}{a:Act}{Q:Exit→Act→World→Prop}{w:World}(hg:o.guard=none)(m x v:Operand)(hop:o.op=Op.insert 91 m x v)(b:Nat)(es:Array MapEntry)(cl:Nat)(hm:a.eval m=.map (some b))(hb:w.heap[b]?=some (.map es cl))(key:ByteArray)(val:Value)(hx:a.eval x=.string key)(hv:a.eval v=val)(hk:Instr.findNow .string (.string key) es.toList 0=some none)(hK:∀w',w'.heap[b]?=some (.map (es.push { key:=.string key,val:=val,born:=cl }) (cl+1))→w.grownBy w' (some b)→wpList prog ops Q rest (a.put o.dst undef) w'): wpList prog ops Q (o::rest) a w:=by
 refine wpList_plain hg fun K' hK'=>?_
 have hrun:=run_ins (f:=val) hb hk
 have hs:=MapKept.heap_set (o':=.map (es.push { key:=.string key,val:=val,born:=cl }) (cl+1)) hb
 unfold Oper.wp
 simp [execOp,hop,hm,hx,hv,hrun,Result.andThen]
 exact hK' _ _ (hK _ hs.1 ⟨rfl,rfl,rfl,by simp,fun i _ hi=>hs.2 i (fun e=>hi (by rw [e]))⟩)
def Cmds (w:World) (b:Nat):Prop:=∃es cl,w.heap[b]?=some (.map es cl)∧Instr.findNow .string (.string ⟨#[118,97,108,117,101,115]⟩) es.toList 0=some (some (3,.func (.func 58) #[] #[]))∧Instr.findNow .string (.string ⟨#[116,101,120,116]⟩) es.toList 0=some (some (6,.func (.func 61) #[] #[]))
theorem commands_any(w:World): Calls prog 31 #[] w fun e w'=>∃b,e=.returned (.map (some b))∧Cmds w' b∧Below w.heap.size w w':=by
 have:(Instr.makeMap 91 none).run prog w=.ok (.map (some w.heap.size)) (w.alloc (.map #[] 0)):=by
  first|rfl|simp [Instr.makeMap,newObj,Sem.run]
 have hb:(w.alloc (.map #[] 0)).heap[w.heap.size]?=some (.map #[] 0):=World.alloc_heap_new w _
 have HB:Hid (Below w.heap.size w (w.alloc (.map #[] 0))):=hid (qR.alloc qL _)
 go_enter func31,ntmps31
 go_wp2_with (refine wpList_ins rfl _ _ _ rfl _ _ _ rfl aM _ _ rfl rfl (by first|rfl|decide) ?_;intro w1 hb1 hg1;have HB1:=hid (HB.out.grown hg1 HB.out.size (fun k e=>by cases e;exact qL));clear hg1 hb HB;have hb:=hb1;have HB:=HB1;clear hb1 HB1)
 go_ret
 exact ⟨_,rfl,⟨_,_,hb,by first|rfl|decide,by first|rfl|decide⟩,HB.out⟩
end
end Go.Proofs.YtjcioljdlfdnbaaGreatDoor
