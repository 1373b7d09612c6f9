/- Part 12: lemmas for TopNumber; no conditions. -/
import Derived.Test.YtjcioljdlfdnbaaGreatDoorH11
set_option linter.unusedVariables false
set_option linter.unusedSimpArgs false
set_option maxRecDepth 100000
set_option maxHeartbeats 2000000
open Go.Proofs.Tryz
namespace Go.Proofs.YtjcioljdlfdnbaaGreatDoor
namespace Nn
open Go.RowKit
open Np
def OfS (D:List Nat) (neg:Bool) (m:Int) (xs:List Nat) (mm:Nat):Prop:=
 (∃a:Nat,m=(if neg then -(a:Int) else (a:Int))∧a<10 ^ 16∧(a=0→xs=[])∧D=dig (Lib.decDigits a)++xs.reverse∧mm=(Lib.decDigits a).length)∨(m=0∧xs≠[]∧D=xs.reverse∧mm=0)
theorem dig_one(d:Nat)(h:d<10): dig [UInt8.ofNat (48+d)]=[d]:=by
 simp [dig,dv]
 omega
theorem ofS_step{D:List Nat}{neg:Bool}{a:Nat}{xs:List Nat}(ha:a<10 ^ 16)(hD:D=dig (Lib.decDigits a)++xs.reverse):
  ∃mm,OfS D neg (if neg then -((a / 10:Nat):Int) else ((a / 10:Nat):Int)) (xs++[a % 10]) mm∧mm<(Lib.decDigits a).length:=by
 by_cases h:a<10
 ·refine ⟨0,.inr ⟨?_,by simp,?_,rfl⟩,?_⟩
  ·have:a / 10=0:=oM
   rw [this];cases neg <;> rfl
  ·rw [hD,Lib.decDigits_one h,dig_one a h]
   simp [Nat.mod_eq_of_lt h]
  ·rw [Lib.decDigits_one h];simp
 ·have e:Lib.decDigits a=Lib.decDigits (a / 10)++[UInt8.ofNat (48+a % 10)]:=by
   rw [Lib.decDigits,dif_neg h]
  refine ⟨(Lib.decDigits (a / 10)).length,.inl ⟨a / 10,rfl,by omega,fun h0=>by omega,?_,rfl⟩,?_⟩
  ·rw [hD,e]
   have:=dig_one (a % 10) oM
   simp only [dig,List.map_append] at this ⊢
   rw [this]
   simp
  ·rw [e];simp
theorem step_grow{P:Program}{ops:Array Oper}{o:Oper}{a:Act}{K:Act→World→Prop}{Q:Exit→Act→World→Prop}{E:Prop}{w:World}{b0:Nat}{C:Array Value}{ty:TypeId}(hgd:o.guard=none)(s x:Operand)(t:TypeId)(ho:o.op=.call { callee:=.builtin .append,args:=#[s,x],argTypes:=#[t,t] })(e:TypeId)(i:TypeInfo)(z:Value)(size bytes:Nat)(ht:P.underlying t=some (.slice e))(hi:P.info? e=some i)(hz:i.zero=some z)(hsize:i.size=size)(hby:i.bytes=bytes)(hzs:z.cells.size=size)(hsz:0<size){v:Value}{n:Nat}{xs:List Value}(hA:w.ownsRow b0 e size v n xs)(hbw:b0≤w.heap.size)(hs:a.eval s=v){H:Nat}(hx:a.eval x=.slice (some ⟨H,0,none⟩) 1 1)(hH:w.heap.size=H)(hC:C.size=size)(h1:C.toList.all (·.oneCell')=true)(h63:n<1000)(hbytes:bytes≤1000)(h:∀g cap w',w'.ownsRow b0 e size (.slice (some ⟨g,0,none⟩) (n+1) cap) (n+1) (xs++C.toList)→(w.alloc (.cells C ty)).grownBy w' v.ownBlock→K (a.put o.dst (.slice (some ⟨g,0,none⟩) (n+1) cap)) w'):
  if Region.wanted o (yielded ops a.tmps)=true then Oper.wp P o a (w.alloc (.cells C ty)) K Q else E:=by
 subst hH
 have:(n+1) * bytes≤1000 * 1000:=Nat.mul_le_mul oM hbytes
 have hal:=(Below.refl w.heap.size w).alloc qL (.cells C ty)
 have own':(w.alloc (.cells C ty)).ownsRow b0 e size v n xs:=hA.kept (row:=Option.none) ⟨hal.os,hal.tape,hal.output,hal.size,fun k hk _=>hal.block k hk⟩ (by
  cases hv:v.ownBlock with
  | none=>exact .inl rfl
  | some k=>exact .inr (fun e=>by injection e))
 refine step_append_lies _ hgd s x t ho b0 e i z size bytes ht hi hz hsize hby hzs hsz v n xs hs own' ⟨w.heap.size,0,none⟩ 1 1 C.toList hx (by simp [hC]) (World.news_of_block (heap_alloc_new w _)) (fun u hu=>List.all_eq_true.1 h1 u hu) oM (by unfold maxLen;omega) oM (by simp;omega) _ rfl ?_
 intro g cap w' ho hg _ _
 exact h g cap w' ho hg
theorem own_row{w:World}{b0:Nat}{e:TypeId}{size:Nat}{g cap n:Nat}{xs:List Value}(h:w.ownsRow b0 e size (.slice (some ⟨g,0,none⟩) (n+1) cap) (n+1) xs): b0≤g∧g<w.heap.size∧n+1≤cap∧∀j u,xs[j]?=some u→w.cell? ⟨g,j,none⟩=some u:=by
 rcases h.2 with ⟨hv,h0⟩|⟨g',cap',cur,hv,hb,hg,hc,_,hs,hx⟩
 ·omega
 ·injection hv with hv _ h3
  injection hv with hv
  injection hv with hv _ _
  subst hv
  refine ⟨hb,(Array.getElem?_eq_some_iff.1 hg).1,by omega,fun j u hj=>?_⟩
  rw [←hx,List.getElem?_take] at hj
  split at hj
  ·simp [World.cell?,hg,hj]
   simpa using hj
  ·simp at hj
structure RBx (b:Nat) (W:World):Prop where
 lt:b<W.heap.size
 c0:W.cell? ⟨b,0,none⟩=some (.bool false)
 c1:W.cell? ⟨b,1,none⟩=some (.slice none 0 0)
 c2:W.cell? ⟨b,2,none⟩=some (.int .i64 0)
 c3:W.cell? ⟨b,3,none⟩=some (.int .i64 0)
 z0:W.frozen? ⟨b,0,none⟩=false
 z1:W.frozen? ⟨b,1,none⟩=false
 z2:W.frozen? ⟨b,2,none⟩=false
 z3:W.frozen? ⟨b,3,none⟩=false
theorem RBx.of{b:Nat}{W W':World}(h:RBx b W)(hs:W.heap.size≤W'.heap.size)(hb:W'.heap[b]?=W.heap[b]?): RBx b W':=
 ⟨Nat.lt_of_lt_of_le h.lt hs,(World.cell?_of_block hb).trans h.c0,(World.cell?_of_block hb).trans h.c1,(World.cell?_of_block hb).trans h.c2,(World.cell?_of_block hb).trans h.c3,(World.frozen?_of_block hb).trans h.z0,(World.frozen?_of_block hb).trans h.z1,(World.frozen?_of_block hb).trans h.z2,(World.frozen?_of_block hb).trans h.z3⟩
structure OL (W1:World) (B:Nat) (sg:Bool) (v:Value) (ys:List Nat) (W:World):Prop where
 gr:W1.grownBy W (some B)
 bl:B<W1.heap.size
 own:W.ownsRow W1.heap.size 3 1 v ys.length (ys.map fun d=>.int .i64 (d:Nat))
 c0:W.cell? ⟨B,0,none⟩=some (.bool sg)
 c1:W.cell? ⟨B,1,none⟩=some v
 c2:W.cell? ⟨B,2,none⟩=some (.int .i64 0)
 c3:W.cell? ⟨B,3,none⟩=some (.int .i64 0)
 z1:W.frozen? ⟨B,1,none⟩=false
 z2:W.frozen? ⟨B,2,none⟩=false
theorem OL.push{W1:World}{B:Nat}{sg:Bool}{v:Value}{ys:List Nat}{W W':World}{o:Obj}{d g cap:Nat}(h:OL W1 B sg v ys W)(hg:(W.alloc o).grownBy W' v.ownBlock)(ho:W'.ownsRow W1.heap.size 3 1 (.slice (some ⟨g,0,none⟩) (ys.length+1) cap) (ys.length+1) (ys.map (fun d=>Value.int .i64 (d:Nat))++#[Value.int .i64 (d:Nat)].toList)):
  OL W1 B sg (.slice (some ⟨g,0,none⟩) (ys.length+1) cap) (ys++[d]) (W'.setCell ⟨B,1,none⟩ (.slice (some ⟨g,0,none⟩) (ys.length+1) cap)):=by
 have hal:=(Below.refl W.heap.size W).alloc qL o
 have hsz:W1.heap.size≤W.heap.size:=h.gr.size
 have hne:∀b,b<W1.heap.size→some b≠v.ownBlock:=fun b hb e=>by
  have:=(h.own.lt b e.symm).1
  omega
 have hbk:∀b,b<W1.heap.size→W'.heap[b]?=W.heap[b]?:=fun b hb=>(hg.block b (by have:=hal.size;omega) (hne b hb)).trans (hal.block b oM)
 have hBk:=hbk B h.bl
 have hc:∀c,W'.cell? ⟨B,c,none⟩=W.cell? ⟨B,c,none⟩ :=fun c=>World.cell?_of_block hBk
 have hf:∀c,W'.frozen? ⟨B,c,none⟩=W.frozen? ⟨B,c,none⟩ :=fun c=>World.frozen?_of_block hBk
 have hs':W.heap.size≤W'.heap.size:=Nat.le_trans hal.size hg.size
 refine ⟨⟨hg.os.trans (hal.os.trans h.gr.os),hg.tape.trans (hal.tape.trans h.gr.tape),hg.output.trans (hal.output.trans h.gr.output),by simp [World.setCell];omega,fun b hb hn=>(Below.heap_setCell _ _ _ _ (by intro e;exact hn (by rw [e]))).trans ((hbk b hb).trans (h.gr.block b hb hn))⟩,h.bl,?_,?_,?_,?_,?_,?_,?_⟩
 ·have:=ownsRow_setCell_below ho (a:=⟨B,1,none⟩) h.bl (.slice (some ⟨g,0,none⟩) (ys.length+1) cap)
  simpa using this
 ·exact (qO tq9).trans ((hc 0).trans h.c0)
 ·exact World.cell?_setCell_same' _ _ _ (by rw [hc 1,h.c1];rfl)
 ·exact (qO tq9).trans ((hc 2).trans h.c2)
 ·exact (qO tq9).trans ((hc 3).trans h.c3)
 ·exact qF.trans ((hf 1).trans h.z1)
 ·exact qF.trans ((hf 2).trans h.z2)
theorem OL.keep{W1:World}{B:Nat}{sg:Bool}{v:Value}{ys:List Nat}{W W':World}{o:Obj}(h:OL W1 B sg v ys W)(hg:(W.alloc o).grownBy W' v.ownBlock): W'.cell? ⟨B,1,none⟩=some v∧W'.frozen? ⟨B,1,none⟩=false:=by
 have hal:=(Below.refl W.heap.size W).alloc qL o
 have:W1.heap.size≤W.heap.size:=h.gr.size
 have hl:=h.bl
 have hBk:W'.heap[B]?=W.heap[B]?:=(hg.block B (by have:=hal.size;omega) (fun e=>by have:=(h.own.lt B e.symm).1;omega)).trans (hal.block B oM)
 exact ⟨(World.cell?_of_block hBk).trans h.c1,(World.frozen?_of_block hBk).trans h.z1⟩
theorem OL.drew{W1:World}{B:Nat}{sg:Bool}{v:Value}{ys:List Nat}{W:World}(h:OL W1 B sg v ys W): OL W1 B sg v ys W.drew:=⟨⟨h.gr.os,h.gr.tape,h.gr.output,h.gr.size,h.gr.block⟩,h.bl,h.own,h.c0,h.c1,h.c2,h.c3,h.z1,h.z2⟩
theorem ofS_len{D:List Nat}{neg:Bool}{m:Int}{xs:List Nat}{mm:Nat}(h:OfS D neg m xs mm): xs.length≤D.length:=by
 rcases h with ⟨a,-,-,-,h,-⟩|⟨-,-,h,-⟩
 ·rw [h];simp
 ·rw [h];simp
theorem rof_any(n:Int)(hn:n.natAbs<10 ^ 16)(w:World): Calls prog 12 #[.int .i64 n] w fun e w'=>∃g c,e=.returned (.agg #[.bool (decide (n<0)),.slice (some ⟨g,0,none⟩) (nds n).length c,.int .i64 (nds n).length,.int .i64 0])∧Dr (dig (nds n)) g w'∧(nds n).length≤c∧Below w.heap.size w w':=by
 have h0:OfS (dig (nds n)) (decide (n<0)) n [] (nds n).length:=.inl ⟨n.natAbs,by by_cases h:n<0 <;> simp [h] <;> omega,hn,fun _=>rfl,by simp [nds],rfl⟩
 obtain ⟨D,hD⟩:∃D,dig (nds n)=D:=⟨_,rfl⟩
 have hDl:(nds n).length=D.length:=by rw [←hD];simp [dig]
 rw [hDl,hD] at h0 ⊢
 have hDl:Hid (D.length≤16):=hid (by rw [←hDl];exact nds_len n hn)
 obtain ⟨i0,hi0,hz0,hs0,hb0⟩ :=info_parts (show (prog.info? 3).map (fun i=>(i.zero,i.size,i.bytes))=some (some (.int .i64 0),1,8) by kernel_rfl)
 obtain ⟨sg,hsg⟩:∃sg,decide (n<0)=sg:=⟨_,rfl⟩
 rw [hsg] at h0 ⊢
 have H0:=hid h0
 clear h0 hD
 go_enter func12,ntmps12
 go_wp2_with fail
 generalize hW0:((w.alloc (.cells #[.bool false,.slice none 0 0,.int .i64 0,.int .i64 0] 37)).alloc (.cells #[.bool sg,.slice none 0 0,.int .i64 0,.int .i64 0] 37))=W0
 have x0:W0.cell? ⟨w.heap.size+1,0,none⟩=some (.bool sg):=by rw [←hW0];simp [go_sem]
 have x1:W0.cell? ⟨w.heap.size+1,1,none⟩=some (.slice none 0 0):=by rw [←hW0];simp [go_sem]
 have x2:W0.cell? ⟨w.heap.size+1,2,none⟩=some (.int .i64 0):=by rw [←hW0];simp [go_sem]
 have x3:W0.cell? ⟨w.heap.size+1,3,none⟩=some (.int .i64 0):=by rw [←hW0];simp [go_sem]
 have z1:W0.frozen? ⟨w.heap.size+1,1,none⟩=false:=by rw [←hW0];simp [go_sem]
 have z2:W0.frozen? ⟨w.heap.size+1,2,none⟩=false:=by rw [←hW0];simp [go_sem]
 have xl:w.heap.size+1<W0.heap.size:=by rw [←hW0];simp
 have HR:Hid (RBx w.heap.size W0):=hid (by rw [←hW0];exact ⟨by simp;omega,by simp [go_sem],by simp [go_sem],by simp [go_sem],by simp [go_sem],by simp [go_sem],by simp [go_sem],by simp [go_sem],by simp [go_sem]⟩)
 have HB:Hid (Below w.heap.size w W0):=hid (by rw [←hW0];(repeat' (first|refine Below.setCell ?_ tq3 _|refine Below.alloc ?_ tq3 _|refine below_drewN' ?_ _|refine Below.drew ?_|exact Hid.out aM|exact qR)))
 clear hW0
 have HA0:=hid (Acc.nil (Below.refl _ W0) 3 1)
 have:Hid (n.natAbs<10 ^ 16):=hid hn
 clear hn
 go_loopg [0,4] D.length (fun mm v0 v4 wr=>∃(m:Int) (xs:List Nat),v0=.int .i64 m∧Hid (OfS D sg m xs mm)∧Hid (Acc W0 wr 3 1 v4 xs.length (xs.map fun d=>.int .i64 (d:Nat)))∧((xs=[]∧v4=.slice none 0 0)∨(∃g c k,xs.length=k+1∧v4=.slice (some ⟨g,0,none⟩) (k+1) c)))
 case atStart=>exact ⟨n,[],rfl,H0,HA0,.inl ⟨rfl,rfl⟩⟩
 case round=>
  clear HA0 H0
  obtain ⟨m,xs,rfl,hO,HA,hv⟩ :=hrel
  have:xs.length<100:=by have:=ofS_len hO.out;have:=hDl.out;omega
  rcases hO.out with ⟨a,hm,ha,ha0,hDa,hmm⟩|⟨rfl,hne,hDx,rfl⟩
  ·obtain ⟨mm2,hO2,hlt⟩ :=ofS_step (neg:=sg) ha hDa
   obtain ⟨q,hq⟩:∃q:Int,(if sg then -((a / 10:Nat):Int) else ((a / 10:Nat):Int))=q:=⟨_,rfl⟩
   rw [hq] at hO2
   have:m.tdiv 10=q:=by
    rw [hm,←hq];cases sg
    ·simp only [Bool.false_eq_true,if_false];exact (Int.ofNat_tdiv a 10).symm
    ·simp only [if_true];rw [Int.neg_tdiv];exact congrArg Neg.neg (Int.ofNat_tdiv a 10).symm
   have:IntKind.i64.wrap q=q:=IntWalk.i64_in _ (by rw [←hq];cases sg <;> simp only [Bool.false_eq_true,if_false,if_true] <;> omega)
   obtain ⟨R,hR⟩:∃R,m.tmod 10=R:=⟨_,rfl⟩
   have hR2:R=if sg then -((a % 10:Nat):Int) else ((a % 10:Nat):Int):=by
    rw [←hR,hm];cases sg
    ·simp only [Bool.false_eq_true,if_false];exact (Int.ofNat_tmod a 10).symm
    ·simp only [if_true];rw [Int.neg_tmod];exact congrArg Neg.neg (Int.ofNat_tmod a 10).symm
   obtain ⟨d,hd⟩:∃d,a % 10=d:=⟨_,rfl⟩
   rw [hd] at hR2 hO2
   have:d≤9:=oM
   have hRw:IntKind.i64.wrap R=R:=IntWalk.i64_in _ (by rw [hR2];cases sg <;> simp only [Bool.false_eq_true,if_false,if_true] <;> omega)
   have hOO:=hid hO2
   have hlt':=hid hlt
   have hmm':Hid (gk=(Lib.decDigits a).length):=hid hmm
   have hcond:Hid ((m != 0)=true∨((m != 0)=false∧u4=.slice none 0 0)):=hid (by
    by_cases h0:a=0
    ·rcases hv with ⟨-,rfl⟩|⟨g,c,k,h1,-⟩
     ·right;subst h0;rw [hm];cases sg <;> exact ⟨rfl,rfl⟩
     ·rw [ha0 h0] at h1;simp at h1
    ·left;rw [bne_iff_ne,hm];cases sg <;> simp only [Bool.false_eq_true,if_false,if_true] <;> omega)
   clear hO hO2 hlt hmm hm ha ha0 hDa hq
   have hfin:∀(g cap:Nat) (w1:World),Hid (Acc W0 w1 3 1 (.slice (some ⟨g,0,none⟩) (xs.length+1) cap) (xs.length+1) (xs.map (fun d=>.int .i64 (d:Nat))++#[Value.int .i64 (d:Nat)].toList))→Hid (Acc W0 w1 3 1 (.slice (some ⟨g,0,none⟩) (xs.length+1) cap) (xs++[d]).length ((xs++[d]).map fun d=>.int .i64 (d:Nat))):=fun g cap w1 h=>by simpa using h
   rcases hcond.out with hc|⟨hc,hnil⟩
   ·clear hcond hv
    by_cases hs:R<0
    ·have dR:decide (R<0)=true:=by rw [decide_eq_true_eq];exact hs
     have hneg:IntKind.i64.wrap (-R)=(d:Int):=by rw [IntWalk.i64_in _ (by omega)];cases sg <;> simp at hR2 <;> omega
     clear hR2 hs hd
     go_wp2_with (first|(at_builtin;refine wpList_push rfl _ _ 31 rfl 3 i0 _ 1 8 underlying31 hi0 hz0 hs0 hb0 rfl oM HA.out rfl rfl sM rfl rfl oM oM ?_;intro g cap w1 hA;have HA1:=hid hA;clear hA))
     go_roundg mm2
     case measure=>go_light;have h1:=hlt'.out;have h2:=hmm'.out;omega
     case rel=>go_light;exact ⟨q,xs++[d],by go_num,hOO,hfin _ _ _ HA1,.inr ⟨_,_,xs.length,by simp,rfl⟩⟩
    ·have dR:decide (R<0)=false:=by rw [decide_eq_false_iff_not];exact hs
     have hRd:R=(d:Int):=by cases sg <;> simp at hR2 <;> omega
     rw [hRd] at hR hRw dR
     clear hR2 hs hd hRd
     go_wp2_with (first|(at_builtin;refine wpList_push rfl _ _ 31 rfl 3 i0 _ 1 8 underlying31 hi0 hz0 hs0 hb0 rfl oM HA.out rfl rfl sM rfl rfl oM oM ?_;intro g cap w1 hA;have HA1:=hid hA;clear hA))
     go_roundg mm2
     case measure=>go_light;have h1:=hlt'.out;have h2:=hmm'.out;omega
     case rel=>go_light;exact ⟨q,xs++[d],by go_num,hOO,hfin _ _ _ HA1,.inr ⟨_,_,xs.length,by simp,rfl⟩⟩
   ·subst hnil
    clear hcond hv
    by_cases hs:R<0
    ·have dR:decide (R<0)=true:=by rw [decide_eq_true_eq];exact hs
     have hneg:IntKind.i64.wrap (-R)=(d:Int):=by rw [IntWalk.i64_in _ (by omega)];cases sg <;> simp at hR2 <;> omega
     clear hR2 hs hd
     go_wp2_with (first|(at_builtin;refine wpList_push rfl _ _ 31 rfl 3 i0 _ 1 8 underlying31 hi0 hz0 hs0 hb0 rfl oM HA.out rfl rfl sM rfl rfl oM oM ?_;intro g cap w1 hA;have HA1:=hid hA;clear hA))
     go_roundg mm2
     case measure=>go_light;have h1:=hlt'.out;have h2:=hmm'.out;omega
     case rel=>go_light;exact ⟨q,xs++[d],by go_num,hOO,hfin _ _ _ HA1,.inr ⟨_,_,xs.length,by simp,rfl⟩⟩
    ·have dR:decide (R<0)=false:=by rw [decide_eq_false_iff_not];exact hs
     have hRd:R=(d:Int):=by cases sg <;> simp at hR2 <;> omega
     rw [hRd] at hR hRw dR
     clear hR2 hs hd hRd
     go_wp2_with (first|(at_builtin;refine wpList_push rfl _ _ 31 rfl 3 i0 _ 1 8 underlying31 hi0 hz0 hs0 hb0 rfl oM HA.out rfl rfl sM rfl rfl oM oM ?_;intro g cap w1 hA;have HA1:=hid hA;clear hA))
     go_roundg mm2
     case measure=>go_light;have h1:=hlt'.out;have h2:=hmm'.out;omega
     case rel=>go_light;exact ⟨q,xs++[d],by go_num,hOO,hfin _ _ _ HA1,.inr ⟨_,_,xs.length,by simp,rfl⟩⟩
  ·obtain ⟨g,c,k,hk,rfl⟩:∃g c k,xs.length=k+1∧u4=.slice (some ⟨g,0,none⟩) (k+1) c:=by
    rcases hv with ⟨h,-⟩|h
    ·exact absurd h hne
    ·exact h
   clear hv hO
   go_wp2_with fail
   have HA2:=HA.out
   rw [hk] at HA2
   obtain ⟨hg0,hg1,hgc⟩ :=HA2.row
   have HBl:=HA.out.bel
   have hbc:∀j (h:j<xs.length),wr.cell? ⟨g,j,none⟩=some (.int .i64 (xs[j]:Nat)):=fun j h=>hgc j _ (by simp [h])
   have HO:Hid (OL wr (w.heap.size+1) sg (.slice none 0 0) [] wr):=hid ⟨⟨rfl,rfl,rfl,qL,fun _ _ _=>rfl⟩,Nat.lt_of_lt_of_le xl HBl.size,World.ownsRow_nil _ _ _ _,(HBl.cell (p:=⟨w.heap.size+1,0,none⟩) xl).trans x0,(HBl.cell (p:=⟨w.heap.size+1,1,none⟩) xl).trans x1,(HBl.cell (p:=⟨w.heap.size+1,2,none⟩) xl).trans x2,(HBl.cell (p:=⟨w.heap.size+1,3,none⟩) xl).trans x3,(HBl.frozen (p:=⟨w.heap.size+1,1,none⟩) xl).trans z1,(HBl.frozen (p:=⟨w.heap.size+1,2,none⟩) xl).trans z2⟩
   have HB1:Hid (Below w.heap.size w wr):=hid (HB.out.trans (HBl.mono HB.out.size))
   have hgB:g≠w.heap.size+1:=oM
   have HR1:Hid (RBx w.heap.size wr):=hid (HR.out.of HBl.size (HBl.block _ HR.out.lt))
   have hRB:w.heap.size≠w.heap.size+1:=oM
   have hBw:w.heap.size≤w.heap.size+1:=oM
   have hTk:Hid (([]:List Nat)++(xs.take (k+1)).reverse=D):=hid (by rw [List.take_of_length_le (by omega),hDx];rfl)
   have hDk:Hid (D.length=k+1):=hid (by rw [hDx];simpa using hk)
   clear HR HA HA2 HBl x0 x1 x2 x3 z1 z2 xl HB hg0 hgc hDx hne
   generalize w.heap.size+1=B at HO hgB hBw hRB ⊢
   rename World=>W1
   go_loopg [6] (k+1) (fun mm v6 wr2=>∃(ys:List Nat) (v:Value),v6=.int .i64 ((mm:Int)-1)∧Hid (OL W1 B sg v ys wr2)∧Hid (ys++(xs.take mm).reverse=D)∧mm≤k+1)
   case atStart=>exact ⟨[],_,by go_num,HO,hTk,by omega⟩
   case round=>
    clear HO hTk
    obtain ⟨ys,v,rfl,HO,hT,hgk⟩ :=hrel
    have:ys.length≤16:=by have h1:=hT.out;have h2:=hDl.out;rw [←h1] at h2;simp at h2;omega
    cases gk with
    | zero=>
     have hy:ys=D:=by have h1:=hT.out;simpa using h1
     subst hy
     have hkk:=hDk.out
     have own:=HO.out.own
     rw [hkk] at own
     obtain ⟨G,cap,rfl⟩ :=ownsRow_succ own
     have c0:=HO.out.c0
     have c1:=HO.out.c1
     have c2:=HO.out.c2
     have c3:=HO.out.c3
     have z2:=HO.out.z2
     have bl:B<wr.heap.size:=Nat.lt_of_lt_of_le HO.out.bl HO.out.gr.size
     have HR2:=HR1.out.of HO.out.gr.size (HO.out.gr.block _ HR1.out.lt (by simp;exact hRB))
     have r0:=HR2.c0
     have r1:=HR2.c1
     have r2:=HR2.c2
     have r3:=HR2.c3
     have s0:=HR2.z0
     have s1:=HR2.z1
     have s2:=HR2.z2
     have s3:=HR2.z3
     have rl:=HR2.lt
     clear own hkk HR2
     go_wp2_with fail
     have hkk:=hDk.out
     have own:=HO.out.own
     rw [hkk] at own
     obtain ⟨o1,o2,o3,o4⟩ :=own_row own
     have hG:∀q,q<W1.heap.size→q≠G:=fun q hq=>oM
     have hGB:=hG B HO.out.bl
     have hGw:=hG w.heap.size HR1.out.lt
     refine bodyPost_ret (v:=.agg #[.bool sg,.slice (some ⟨G,0,none⟩) (k+1) cap,.int .i64 ((k:Int)+1),.int .i64 0]) (by simp [results,results12,go_sem, *]) rfl ⟨G,cap,?_,⟨?_,?_⟩,by rw [hkk];exact o3,?_⟩
     ·rw [hkk];rfl
     ·simpa [World.setCell] using o2
     ·intro i hi
      rw [qO (by intro e;injection e with e1;exact hGw e1),qO (by intro e;injection e with e1;exact hGw e1),qO (by intro e;injection e with e1;exact hGw e1),qO (by intro e;injection e with e1;exact hGw e1),qO (by intro e;injection e with e1;exact hGB e1)]
      exact o4 i _ (by simp [hi])
     ·have hb0:Below w.heap.size w wr:=HB1.out.grown HO.out.gr HB1.out.size (fun j hj=>by injection hj with hj;omega)
      exact ((((hb0.setCell hBw _).setCell qL _).setCell qL _).setCell qL _).setCell qL _
    | succ r=>
     have er:((r+1:Nat):Int)-1=(r:Int):=oM
     rw [er]
     have hr:r<xs.length:=oM
     have hT2:Hid (ys++[xs[r]]++(xs.take r).reverse=D):=hid (by
      have h1:=hT.out
      rw [show (xs.take (r+1)).reverse=[xs[r]]++(xs.take r).reverse by rw [List.take_succ_eq_append_getElem hr,List.reverse_append];rfl,←List.append_assoc] at h1
      exact h1)
     have cr:wr.cell? ⟨g,r,none⟩=some (.int .i64 (xs[r]:Nat)):=(World.cell?_of_block (HO.out.gr.block g hg1 (by simp;exact hgB))).trans (hbc r hr)
     have c1:=HO.out.c1
     have z1:=HO.out.z1
     have bl:B<wr.heap.size:=Nat.lt_of_lt_of_le HO.out.bl HO.out.gr.size
     have gl:g<wr.heap.size:=Nat.lt_of_lt_of_le hg1 HO.out.gr.size
     have gl1:g<wr.heap.size+1:=oM
     have bl1:B<wr.heap.size+1:=oM
     have:(r:Int)<(k:Int)+1:=oM
     have:IntKind.i64.wrap ((r:Int)-1)=(r:Int)-1:=IntWalk.i64_in _ oM
     have hbb:W1.heap.size≤wr.heap.size:=HO.out.gr.size
     go_wp2_with fail
     apply wp_cut2 (fun G cap W'=>Hid (OL W1 B sg (.slice (some ⟨G,0,none⟩) (ys.length+1) cap) (ys++[xs[r]]) W'))
     ·go_region_law ((first|((first|refine step_grow rfl _ _ 31 rfl 3 i0 _ 1 8 underlying31 hi0 hz0 hs0 hb0 rfl oM HO.out.own hbb rfl rfl rfl rfl rfl oM oM ?_|refine step_grow (w:=wr.drew) rfl _ _ 31 rfl 3 i0 _ 1 8 underlying31 hi0 hz0 hs0 hb0 rfl oM HO.out.drew.own hbb rfl rfl rfl rfl rfl oM oM ?_);intro G cap w3 ho hg;obtain ⟨xa,xb⟩ :=(by first|exact HO.out.keep hg|exact HO.out.drew.keep hg:w3.cell? ⟨B,1,none⟩=some v∧w3.frozen? ⟨B,1,none⟩=false))))
      all_goals exact ⟨G,cap,rfl,hid (by first|exact HO.out.push hg ho|exact HO.out.drew.push hg ho)⟩
     ·rintro G cap W2 HO2
      clear HO hT cr c1 z1 bl gl gl1 bl1 hbb
      go_wp2_with fail
      go_roundg r
      case measure=>go_light;omega
      case rel=>go_light;exact ⟨ys++[xs[r]],_,by go_num,HO2,hT2,by omega⟩
structure OM (W1:World) (B:Nat) (sg:Bool) (v:Value) (P E:Int) (ys:List Nat) (W:World):Prop where
 gr:W1.grownBy W (some B)
 bl:B<W1.heap.size
 own:W.ownsRow W1.heap.size 3 1 v ys.length (ys.map fun d=>.int .i64 (d:Nat))
 c0:W.cell? ⟨B,0,none⟩=some (.bool sg)
 c1:W.cell? ⟨B,1,none⟩=some v
 c2:W.cell? ⟨B,2,none⟩=some (.int .i64 P)
 c3:W.cell? ⟨B,3,none⟩=some (.int .i64 E)
 z0:W.frozen? ⟨B,0,none⟩=false
 z1:W.frozen? ⟨B,1,none⟩=false
 z2:W.frozen? ⟨B,2,none⟩=false
 z3:W.frozen? ⟨B,3,none⟩=false
theorem OM.push{W1:World}{B:Nat}{sg:Bool}{v:Value}{P E:Int}{ys:List Nat}{W W':World}{o:Obj}{d g cap:Nat}(h:OM W1 B sg v P E ys W)(hg:(W.alloc o).grownBy W' v.ownBlock)(ho:W'.ownsRow W1.heap.size 3 1 (.slice (some ⟨g,0,none⟩) (ys.length+1) cap) (ys.length+1) (ys.map (fun d=>Value.int .i64 (d:Nat))++#[Value.int .i64 (d:Nat)].toList)):
  OM W1 B sg (.slice (some ⟨g,0,none⟩) (ys.length+1) cap) P E (ys++[d]) (W'.setCell ⟨B,1,none⟩ (.slice (some ⟨g,0,none⟩) (ys.length+1) cap)):=by
 have hal:=(Below.refl W.heap.size W).alloc qL o
 have hsz:W1.heap.size≤W.heap.size:=h.gr.size
 have hne:∀b,b<W1.heap.size→some b≠v.ownBlock:=fun b hb e=>by
  have:=(h.own.lt b e.symm).1
  omega
 have hbk:∀b,b<W1.heap.size→W'.heap[b]?=W.heap[b]?:=fun b hb=>(hg.block b (by have:=hal.size;omega) (hne b hb)).trans (hal.block b oM)
 have hBk:=hbk B h.bl
 have hc:∀c,W'.cell? ⟨B,c,none⟩=W.cell? ⟨B,c,none⟩ :=fun c=>World.cell?_of_block hBk
 have hf:∀c,W'.frozen? ⟨B,c,none⟩=W.frozen? ⟨B,c,none⟩ :=fun c=>World.frozen?_of_block hBk
 have hs':W.heap.size≤W'.heap.size:=Nat.le_trans hal.size hg.size
 refine ⟨⟨hg.os.trans (hal.os.trans h.gr.os),hg.tape.trans (hal.tape.trans h.gr.tape),hg.output.trans (hal.output.trans h.gr.output),by simp [World.setCell];omega,fun b hb hn=>(Below.heap_setCell _ _ _ _ (by intro e;exact hn (by rw [e]))).trans ((hbk b hb).trans (h.gr.block b hb hn))⟩,h.bl,?_,?_,?_,?_,?_,?_,?_,?_,?_⟩
 ·have:=ownsRow_setCell_below ho (a:=⟨B,1,none⟩) h.bl (.slice (some ⟨g,0,none⟩) (ys.length+1) cap)
  simpa using this
 ·exact (qO tq9).trans ((hc 0).trans h.c0)
 ·exact World.cell?_setCell_same' _ _ _ (by rw [hc 1,h.c1];rfl)
 ·exact (qO tq9).trans ((hc 2).trans h.c2)
 ·exact (qO tq9).trans ((hc 3).trans h.c3)
 ·exact qF.trans ((hf 0).trans h.z0)
 ·exact qF.trans ((hf 1).trans h.z1)
 ·exact qF.trans ((hf 2).trans h.z2)
 ·exact qF.trans ((hf 3).trans h.z3)
theorem OM.keep{W1:World}{B:Nat}{sg:Bool}{v:Value}{P E:Int}{ys:List Nat}{W W':World}{o:Obj}(h:OM W1 B sg v P E ys W)(hg:(W.alloc o).grownBy W' v.ownBlock): W'.cell? ⟨B,1,none⟩=some v∧W'.frozen? ⟨B,1,none⟩=false:=by
 have hal:=(Below.refl W.heap.size W).alloc qL o
 have:W1.heap.size≤W.heap.size:=h.gr.size
 have hl:=h.bl
 have hBk:W'.heap[B]?=W.heap[B]?:=(hg.block B (by have:=hal.size;omega) (fun e=>by have:=(h.own.lt B e.symm).1;omega)).trans (hal.block B oM)
 exact ⟨(World.cell?_of_block hBk).trans h.c1,(World.frozen?_of_block hBk).trans h.z1⟩
theorem OM.drew{W1:World}{B:Nat}{sg:Bool}{v:Value}{P E:Int}{ys:List Nat}{W:World}(h:OM W1 B sg v P E ys W): OM W1 B sg v P E ys W.drew:=⟨⟨h.gr.os,h.gr.tape,h.gr.output,h.gr.size,h.gr.block⟩,h.bl,h.own,h.c0,h.c1,h.c2,h.c3,h.z0,h.z1,h.z2,h.z3⟩
theorem OM.setP{W1:World}{B:Nat}{sg:Bool}{v:Value}{P E:Int}{ys:List Nat}{W:World}(h:OM W1 B sg v P E ys W)(P':Int): OM W1 B sg v P' E ys (W.setCell ⟨B,2,none⟩ (.int .i64 P')):=
 ⟨⟨h.gr.os,h.gr.tape,h.gr.output,by simpa [World.setCell] using h.gr.size,fun b hb hn=>(Below.heap_setCell _ _ _ _ (by intro e;exact hn (by rw [e]))).trans (h.gr.block b hb hn)⟩,h.bl,ownsRow_setCell_below h.own h.bl _,(qO tq9).trans h.c0,(qO tq9).trans h.c1,World.cell?_setCell_same' _ _ _ (by rw [h.c2];rfl),(qO tq9).trans h.c3,qF.trans h.z0,qF.trans h.z1,qF.trans h.z2,qF.trans h.z3⟩
theorem OM.setE{W1:World}{B:Nat}{sg:Bool}{v:Value}{P E:Int}{ys:List Nat}{W:World}(h:OM W1 B sg v P E ys W)(E':Int): OM W1 B sg v P E' ys (W.setCell ⟨B,3,none⟩ (.int .i64 E')):=
 ⟨⟨h.gr.os,h.gr.tape,h.gr.output,by simpa [World.setCell] using h.gr.size,fun b hb hn=>(Below.heap_setCell _ _ _ _ (by intro e;exact hn (by rw [e]))).trans (h.gr.block b hb hn)⟩,h.bl,ownsRow_setCell_below h.own h.bl _,(qO tq9).trans h.c0,(qO tq9).trans h.c1,(qO tq9).trans h.c2,World.cell?_setCell_same' _ _ _ (by rw [h.c3];rfl),qF.trans h.z0,qF.trans h.z1,qF.trans h.z2,qF.trans h.z3⟩
theorem OM.setM{W1:World}{B:Nat}{sg:Bool}{v:Value}{P E:Int}{ys:List Nat}{W:World}(h:OM W1 B sg v P E ys W)(sg':Bool): OM W1 B sg' v P E ys (W.setCell ⟨B,0,none⟩ (.bool sg')):=
 ⟨⟨h.gr.os,h.gr.tape,h.gr.output,by simpa [World.setCell] using h.gr.size,fun b hb hn=>(Below.heap_setCell _ _ _ _ (by intro e;exact hn (by rw [e]))).trans (h.gr.block b hb hn)⟩,h.bl,ownsRow_setCell_below h.own h.bl _,World.cell?_setCell_same' _ _ _ (by rw [h.c0];rfl),(qO tq9).trans h.c1,(qO tq9).trans h.c2,(qO tq9).trans h.c3,qF.trans h.z0,qF.trans h.z1,qF.trans h.z2,qF.trans h.z3⟩
def Fz (n:Nat) (l:List (Nat × Value)) (x:Act):Prop:=x.defers=[]∧x.tmps.size=n∧∀q∈l,x.tmps[q.1]?=some q.2
theorem Fz.at{n:Nat}{l:List (Nat × Value)}{x:Act}(h:Fz n l x)(i:Nat)(v:Value)(hm:(i,v)∈l): x.tmps.getD i undef=v:=by
 have:=h.2.2 (i,v) hm
 rw [Array.getD_eq_getD_getElem?,this];rfl
theorem rowz_lit(ts:Array Value)(n:Nat)(h:ts.size=n): ts=((List.range n).map fun i=>ts.getD i undef).toArray:=by
 subst h
 apply Array.ext
 ·simp
 ·intro i h1 h2
  simp [Array.getD,h1]
theorem Fz.lit_of{n:Nat}{l:List (Nat × Value)}{x:Act}(h:Fz n l x)(t:Array Value)(ht:((List.range n).map fun i=>x.tmps.getD i undef).toArray=t): x={ tmps:=t,defers:=[] }:=by
 have h1:=rowz_lit x.tmps n h.2.1
 cases x with
 | mk t' d=>have hd:d=[]:=h.1;subst hd;exact congrArg (fun t=>(⟨t,[]⟩:Act)) (h1.trans ht)
theorem Fz.lit37 {l : List (Nat × Value)} {x : Act} (h : Fz 37 l x) : x = { tmps := (fun g : Nat → Value => #[g 0,g 1,g 2,g 3,g 4,g 5,g 6,g 7,g 8,g 9,g 10,g 11,g 12,g 13,g 14,g 15,g 16,g 17,g 18,g 19,g 20,g 21,g 22,g 23,g 24,g 25,g 26,g 27,g 28,g 29,g 30,g 31,g 32,g 33,g 34,g 35,g 36]) fun i => x.tmps.getD i undef, defers := [] } := h.lit_of _ rfl
theorem Fz.lit73 {l : List (Nat × Value)} {x : Act} (h : Fz 73 l x) : x = { tmps := (fun g : Nat → Value => #[g 0,g 1,g 2,g 3,g 4,g 5,g 6,g 7,g 8,g 9,g 10,g 11,g 12,g 13,g 14,g 15,g 16,g 17,g 18,g 19,g 20,g 21,g 22,g 23,g 24,g 25,g 26,g 27,g 28,g 29,g 30,g 31,g 32,g 33,g 34,g 35,g 36,g 37,g 38,g 39,g 40,g 41,g 42,g 43,g 44,g 45,g 46,g 47,g 48,g 49,g 50,g 51,g 52,g 53,g 54,g 55,g 56,g 57,g 58,g 59,g 60,g 61,g 62,g 63,g 64,g 65,g 66,g 67,g 68,g 69,g 70,g 71,g 72]) fun i => x.tmps.getD i undef, defers := [] } := h.lit_of _ rfl
theorem Fz.lit97 {l : List (Nat × Value)} {x : Act} (h : Fz 97 l x) : x = { tmps := (fun g : Nat → Value => #[g 0,g 1,g 2,g 3,g 4,g 5,g 6,g 7,g 8,g 9,g 10,g 11,g 12,g 13,g 14,g 15,g 16,g 17,g 18,g 19,g 20,g 21,g 22,g 23,g 24,g 25,g 26,g 27,g 28,g 29,g 30,g 31,g 32,g 33,g 34,g 35,g 36,g 37,g 38,g 39,g 40,g 41,g 42,g 43,g 44,g 45,g 46,g 47,g 48,g 49,g 50,g 51,g 52,g 53,g 54,g 55,g 56,g 57,g 58,g 59,g 60,g 61,g 62,g 63,g 64,g 65,g 66,g 67,g 68,g 69,g 70,g 71,g 72,g 73,g 74,g 75,g 76,g 77,g 78,g 79,g 80,g 81,g 82,g 83,g 84,g 85,g 86,g 87,g 88,g 89,g 90,g 91,g 92,g 93,g 94,g 95,g 96]) fun i => x.tmps.getD i undef, defers := [] } := h.lit_of _ rfl
theorem Fz.lit177 {l : List (Nat × Value)} {x : Act} (h : Fz 177 l x) : x = { tmps := (fun g : Nat → Value => #[g 0,g 1,g 2,g 3,g 4,g 5,g 6,g 7,g 8,g 9,g 10,g 11,g 12,g 13,g 14,g 15,g 16,g 17,g 18,g 19,g 20,g 21,g 22,g 23,g 24,g 25,g 26,g 27,g 28,g 29,g 30,g 31,g 32,g 33,g 34,g 35,g 36,g 37,g 38,g 39,g 40,g 41,g 42,g 43,g 44,g 45,g 46,g 47,g 48,g 49,g 50,g 51,g 52,g 53,g 54,g 55,g 56,g 57,g 58,g 59,g 60,g 61,g 62,g 63,g 64,g 65,g 66,g 67,g 68,g 69,g 70,g 71,g 72,g 73,g 74,g 75,g 76,g 77,g 78,g 79,g 80,g 81,g 82,g 83,g 84,g 85,g 86,g 87,g 88,g 89,g 90,g 91,g 92,g 93,g 94,g 95,g 96,g 97,g 98,g 99,g 100,g 101,g 102,g 103,g 104,g 105,g 106,g 107,g 108,g 109,g 110,g 111,g 112,g 113,g 114,g 115,g 116,g 117,g 118,g 119,g 120,g 121,g 122,g 123,g 124,g 125,g 126,g 127,g 128,g 129,g 130,g 131,g 132,g 133,g 134,g 135,g 136,g 137,g 138,g 139,g 140,g 141,g 142,g 143,g 144,g 145,g 146,g 147,g 148,g 149,g 150,g 151,g 152,g 153,g 154,g 155,g 156,g 157,g 158,g 159,g 160,g 161,g 162,g 163,g 164,g 165,g 166,g 167,g 168,g 169,g 170,g 171,g 172,g 173,g 174,g 175,g 176]) fun i => x.tmps.getD i undef, defers := [] } := h.lit_of _ rfl
theorem Fz.lit179 {l : List (Nat × Value)} {x : Act} (h : Fz 179 l x) : x = { tmps := (fun g : Nat → Value => #[g 0,g 1,g 2,g 3,g 4,g 5,g 6,g 7,g 8,g 9,g 10,g 11,g 12,g 13,g 14,g 15,g 16,g 17,g 18,g 19,g 20,g 21,g 22,g 23,g 24,g 25,g 26,g 27,g 28,g 29,g 30,g 31,g 32,g 33,g 34,g 35,g 36,g 37,g 38,g 39,g 40,g 41,g 42,g 43,g 44,g 45,g 46,g 47,g 48,g 49,g 50,g 51,g 52,g 53,g 54,g 55,g 56,g 57,g 58,g 59,g 60,g 61,g 62,g 63,g 64,g 65,g 66,g 67,g 68,g 69,g 70,g 71,g 72,g 73,g 74,g 75,g 76,g 77,g 78,g 79,g 80,g 81,g 82,g 83,g 84,g 85,g 86,g 87,g 88,g 89,g 90,g 91,g 92,g 93,g 94,g 95,g 96,g 97,g 98,g 99,g 100,g 101,g 102,g 103,g 104,g 105,g 106,g 107,g 108,g 109,g 110,g 111,g 112,g 113,g 114,g 115,g 116,g 117,g 118,g 119,g 120,g 121,g 122,g 123,g 124,g 125,g 126,g 127,g 128,g 129,g 130,g 131,g 132,g 133,g 134,g 135,g 136,g 137,g 138,g 139,g 140,g 141,g 142,g 143,g 144,g 145,g 146,g 147,g 148,g 149,g 150,g 151,g 152,g 153,g 154,g 155,g 156,g 157,g 158,g 159,g 160,g 161,g 162,g 163,g 164,g 165,g 166,g 167,g 168,g 169,g 170,g 171,g 172,g 173,g 174,g 175,g 176,g 177,g 178]) fun i => x.tmps.getD i undef, defers := [] } := h.lit_of _ rfl
theorem Fz.mk0(n:Nat)(t:Array Value)(hs:t.size=n): Fz n [] { tmps:=t,defers:=[] }:=⟨rfl,hs,by simp⟩
theorem Fz.cons{n:Nat}{l:List (Nat × Value)}{x:Act}(h:Fz n l x)(i:Nat)(v:Value)(hv:x.tmps[i]?=some v): Fz n ((i,v)::l) x:=⟨h.1,h.2.1,by
 intro q hq
 rcases List.mem_cons.1 hq with rfl|hq
 ·exact hv
 ·exact h.2.2 q hq⟩
theorem Fz.sub{n:Nat}{l l':List (Nat × Value)}{x:Act}(h:Fz n l x)(hs:∀q∈l',q∈l): Fz n l' x:=⟨h.1,h.2.1,fun q hq=>h.2.2 q (hs q hq)⟩
def restOf:Code→Nat→Code
 | .seq _ b,n+1=>restOf b n
 | c,_=>c
def bodyOf (f:Func):Code:=match f.body with|some c=>c|none=>.skip
def lay4 (W:World) (R:Nat) (b:Bool) (v:Value) (P E:Int):World:=(((W.setCell ⟨R,0,none⟩ (.bool b)).setCell ⟨R,1,none⟩ v).setCell ⟨R,2,none⟩ (.int .i64 P)).setCell ⟨R,3,none⟩ (.int .i64 E)
def RdE (W1:World) (R B:Nat) (ok mi:Bool) (v:Value) (P E:Int) (Y:List Nat) (x':Act) (w':World):Prop:=
 Fz 179 [(2,.pointer (some ⟨R,0,none⟩)),(3,.bool ok)] x'∧∃w'',w'=lay4 w'' R (if ok then mi else false) (if ok then v else .slice none 0 0) (if ok then P else 0) (if ok then E else 0)∧W1.grownBy w'' (some B)∧RBx R w''∧(ok=true→w''.ownsRow W1.heap.size 3 1 v Y.length (Y.map fun d=>.int .i64 (d:Nat)))
theorem rread_t1a(s:ByteArray)(hs:s.size≤80)(R B:Nat)(mi:Bool)(G kk cap:Nat)(P:Int)(A:List Nat)(p:Nat)(hp:p=s.size)(x:Act)(hx:Fz 179 [(0,.string s),(2,.pointer (some ⟨R,0,none⟩)),(4,.pointer (some ⟨B,0,none⟩)),(5,.int .i64 (p:Nat))] x)(W1 w:World)(HO:Hid (OM W1 B mi (.slice (some ⟨G,0,none⟩) kk cap) P 0 A w))(HR:Hid (RBx R w))(hRB:R≠B)(Q:Exit→Act→World→Prop)(hk:∀x' w',RdE W1 R B true mi (.slice (some ⟨G,0,none⟩) kk cap) P 0 A x' w'→Q .ret x' w'): (restOf (bodyOf f10) 10).wp prog Q x w:=by
 have HK:=hid hk
 clear hk
 have kv0:=hx.at 0 (.string s) sM
 have kv2:=hx.at 2 (.pointer (some ⟨R,0,none⟩)) sM
 have kv4:=hx.at 4 (.pointer (some ⟨B,0,none⟩)) sM
 have kv5:=hx.at 5 (.int .i64 (p:Nat)) sM
 have e:=hx.lit179
 rw [e];simp only [kv0,kv2,kv4,kv5]
 clear hx e kv0 kv2 kv4 kv5
 have gen:=qG x
 obtain ⟨u,hu⟩ :=gen
 simp only [hu]
 clear hu x
 have:((p:Int)==(s.size:Int))=true:=by rw [beq_iff_eq,hp]
 have c0:=HO.out.c0
 have c1:=HO.out.c1
 have c2:=HO.out.c2
 have c3:=HO.out.c3
 have r0:=HR.out.c0
 have r1:=HR.out.c1
 have r2:=HR.out.c2
 have r3:=HR.out.c3
 have s0:=HR.out.z0
 have s1:=HR.out.z1
 have s2:=HR.out.z2
 have s3:=HR.out.z3
 have bl:B<w.heap.size:=Nat.lt_of_lt_of_le HO.out.bl HO.out.gr.size
 have rl:=HR.out.lt
 show Code.wp _ (Code.seq _ _) _ _ _
 go_wp2_with fail
 exact HK.out _ _ ⟨(Fz.cons (Fz.cons (Fz.mk0 179 _ rfl) 3 _ rfl) 2 _ rfl),w,rfl,HO.out.gr,HR.out,fun _=>HO.out.own⟩
theorem rread_t1b(s:ByteArray)(hs:s.size≤80)(R B:Nat)(mi:Bool)(G kk cap:Nat)(P:Int)(A:List Nat)(p:Nat)(hp:p<s.size)(h1:(s[p]'hp).toNat≠101)(h2:(s[p]'hp).toNat≠69)(x:Act)(hx:Fz 179 [(0,.string s),(2,.pointer (some ⟨R,0,none⟩)),(4,.pointer (some ⟨B,0,none⟩)),(5,.int .i64 (p:Nat))] x)(W1 w:World)(HO:Hid (OM W1 B mi (.slice (some ⟨G,0,none⟩) kk cap) P 0 A w))(HR:Hid (RBx R w))(hRB:R≠B)(Q:Exit→Act→World→Prop)(hk:∀x' w',RdE W1 R B false mi (.slice (some ⟨G,0,none⟩) kk cap) P 0 A x' w'→Q .ret x' w'): (restOf (bodyOf f10) 10).wp prog Q x w:=by
 have HK:=hid hk
 clear hk
 have kv0:=hx.at 0 (.string s) sM
 have kv2:=hx.at 2 (.pointer (some ⟨R,0,none⟩)) sM
 have kv4:=hx.at 4 (.pointer (some ⟨B,0,none⟩)) sM
 have kv5:=hx.at 5 (.int .i64 (p:Nat)) sM
 have e:=hx.lit179
 rw [e];simp only [kv0,kv2,kv4,kv5]
 clear hx e kv0 kv2 kv4 kv5
 have gen:=qG x
 obtain ⟨u,hu⟩ :=gen
 simp only [hu]
 clear hu x
 have:((p:Int)==(s.size:Int))=false:=by rw [beq_eq_false_iff_ne];omega
 have hX:=idx_run s p hp (p:Int) rfl
 have:(((s[p]'hp).toNat:Int) != 101)=true:=by rw [bne_iff_ne];omega
 have:(((s[p]'hp).toNat:Int) != 69)=true:=by rw [bne_iff_ne];omega
 have c0:=HO.out.c0
 have c1:=HO.out.c1
 have c2:=HO.out.c2
 have c3:=HO.out.c3
 have r0:=HR.out.c0
 have r1:=HR.out.c1
 have r2:=HR.out.c2
 have r3:=HR.out.c3
 have s0:=HR.out.z0
 have s1:=HR.out.z1
 have s2:=HR.out.z2
 have s3:=HR.out.z3
 have bl:B<w.heap.size:=Nat.lt_of_lt_of_le HO.out.bl HO.out.gr.size
 have rl:=HR.out.lt
 show Code.wp _ (Code.seq _ _) _ _ _
 go_wp2_with fail
 exact HK.out _ _ ⟨(Fz.cons (Fz.cons (Fz.mk0 179 _ rfl) 3 _ rfl) 2 _ rfl),w,rfl,HO.out.gr,HR.out,fun _=>HO.out.own⟩
theorem RBx.other{R B c:Nat}{W:World}{v:Value}(h:RBx R W)(hne:R≠B): RBx R (W.setCell ⟨B,c,none⟩ v):=h.of (by simp [World.setCell]) (Below.heap_setCell _ _ _ _ hne)
theorem RBx.drew{R:Nat}{W:World}(h:RBx R W): RBx R W.drew:=h.of qL rfl
theorem cut_snoc(c:Nat)(l:List UInt8)(b:UInt8): cut c (l++[b])=min (cut c l * 10+dv b) c:=by
 simp [cut,List.foldl_append]
theorem cut_le(c:Nat)(l:List UInt8): cut c l≤c:=by rw [cut_eq];omega
theorem rread_t2a(s:ByteArray)(hs:s.size≤80)(R B:Nat)(mi em:Bool)(G kk cap:Nat)(P:Int)(A:List Nat)(q d:Nat)(hq:q≤s.size)(hd:Hid (dlen (s.data.toList.drop q)=d))(x:Act)(hx:Fz 179 [(0,.string s),(2,.pointer (some ⟨R,0,none⟩)),(4,.pointer (some ⟨B,0,none⟩)),(5,.int .i64 (q:Nat)),(10,.bool em)] x)(W1 w:World)(HO:Hid (OM W1 B mi (.slice (some ⟨G,0,none⟩) kk cap) P 0 A w))(HR:Hid (RBx R w))(hRB:R≠B)(Q:Exit→Act→World→Prop)(hk0:d=0∨q+d≠s.size→∀x' w',RdE W1 R B false mi (.slice (some ⟨G,0,none⟩) kk cap) P 0 A x' w'→Q .ret x' w')(hk1:d≠0→q+d=s.size→∀E,E=ev em 1000000000000 ((s.data.toList.drop q).take d)→∀x' w',RdE W1 R B true mi (.slice (some ⟨G,0,none⟩) kk cap) P E A x' w'→Q .ret x' w'): (restOf (bodyOf f10) 15).wp prog Q x w:=by
 have HK0:=hid hk0
 have HK1:=hid hk1
 clear hk0 hk1
 have kv0:=hx.at 0 (.string s) sM
 have kv2:=hx.at 2 (.pointer (some ⟨R,0,none⟩)) sM
 have kv4:=hx.at 4 (.pointer (some ⟨B,0,none⟩)) sM
 have kv5:=hx.at 5 (.int .i64 (q:Nat)) sM
 have kv10:=hx.at 10 (.bool em) sM
 have e:=hx.lit179
 rw [e];simp only [kv0,kv2,kv4,kv5,kv10]
 clear hx e kv0 kv2 kv4 kv5 kv10
 have gen:=qG x
 obtain ⟨u,hu⟩ :=gen
 simp only [hu]
 clear hu x
 have hsz:=dlen_size s q hq
 rw [hd.out] at hsz
 have c0:=HO.out.c0
 have c1:=HO.out.c1
 have c2:=HO.out.c2
 have c3:=HO.out.c3
 have r0:=HR.out.c0
 have r1:=HR.out.c1
 have r2:=HR.out.c2
 have r3:=HR.out.c3
 have s0:=HR.out.z0
 have s1:=HR.out.z1
 have s2:=HR.out.z2
 have s3:=HR.out.z3
 have bl:B<w.heap.size:=Nat.lt_of_lt_of_le HO.out.bl HO.out.gr.size
 have rl:=HR.out.lt
 have hw:IntKind.i64.wrap ((q:Int)+(d:Int))=(q:Int)+(d:Int):=IntWalk.i64_in _ oM
 have hrun:=fun W=>rrun_any s q d oM hq hd W
 show Code.wp _ (Code.seq _ _) _ _ _
 by_cases h0:d=0
 ·have e1:((d:Int)==0)=true:=by rw [beq_iff_eq];omega
  have HZ:=hid (HK0.out (.inl h0))
  clear h0 HK0 HK1
  go_wp2_with fail
  refine (hrun _).mono ?_;rintro e w1 ⟨rfl,rfl⟩
  go_wp2_with fail
  exact HZ.out _ _ ⟨(Fz.cons (Fz.cons (Fz.mk0 179 _ rfl) 3 _ rfl) 2 _ rfl),w,rfl,HO.out.gr,HR.out,fun _=>HO.out.own⟩
 ·have e1:((d:Int)==0)=false:=by rw [beq_eq_false_iff_ne];omega
  by_cases h1:q+d=s.size
  ·have e2:((q:Int)+(d:Int) != (s.size:Int))=false:=by rw [bne_eq_false_iff_eq];omega
   have HK1':=hid (HK1.out h0 h1)
   clear HK1
   have HK1:=HK1'
   clear HK1' h0 HK0
   go_wp2_with fail
   refine (hrun _).mono ?_;rintro e w1 ⟨rfl,rfl⟩
   go_wp2_with fail
   have HE0:((cut 1000000000000 ((s.data.toList.drop q).take 0):Nat):Int)=0:=rfl
   rw [←HE0] at HO
   have HR0:R≠B:=hRB
   clear c0 c1 c2 c3 r0 r1 r2 r3 s0 s1 s2 s3 bl rl e1 e2
   go_loopg [12] d (fun mm v12 wr=>∃i:Nat,v12=.int .i64 (i:Nat)∧i≤d∧mm=d-i∧Hid (OM W1 B mi (.slice (some ⟨G,0,none⟩) kk cap) P ((cut 1000000000000 ((s.data.toList.drop q).take i):Nat):Int) A wr)∧Hid (RBx R wr))
   case atStart=>exact ⟨0,rfl,by omega,rfl,HO,HR⟩
   case round=>
    clear HO HR HE0
    obtain ⟨i,rfl,hi,rfl,HO,HR⟩ :=hrel
    have bl:B<wr.heap.size:=Nat.lt_of_lt_of_le HO.out.bl HO.out.gr.size
    have rl:=HR.out.lt
    by_cases hlt:i<d
    ·have f1:decide (i<d)=true:=by rw [decide_eq_true_eq];exact hlt
     obtain ⟨hk2,hD⟩ :=dlen_in s q i (by rw [hd.out];exact hlt)
     have hX:=idx_run s (q+i) hk2 ((q:Int)+(i:Int)) oM
     have hw1:IntKind.i64.wrap ((q:Int)+(i:Int))=(q:Int)+(i:Int):=IntWalk.i64_in _ oM
     obtain ⟨c,hc⟩:∃c,cut 1000000000000 ((s.data.toList.drop q).take i)=c:=⟨_,rfl⟩
     have hcl:c≤1000000000000:=by rw [←hc];exact cut_le _ _
     obtain ⟨b,hb⟩:∃b,(s[q+i]'hk2).toNat=b:=⟨_,rfl⟩
     have hb1:48≤b∧b≤57:=by rw [←hb];exact hD
     have hnx:cut 1000000000000 ((s.data.toList.drop q).take (i+1))=min (c * 10+(b-48)) 1000000000000:=by
      have hl:i<(s.data.toList.drop q).length:=by have:=dlen_le (s.data.toList.drop q);rw [hd.out] at this;omega
      rw [List.take_succ_eq_append_getElem hl,cut_snoc,hc]
      have:(s.data.toList.drop q)[i]=s[q+i]'hk2:=by rw [List.getElem_drop];rfl
      rw [this];unfold dv;rw [hb]
     have HNX:=hid hnx
     rw [hc] at HO
     rw [hb] at hX
     have c3:=HO.out.c3
     have z3:=HO.out.z3
     have w1:IntKind.i64.wrap ((c:Int) * 10)=(c:Int) * 10:=IntWalk.i64_in _ oM
     have w2:IntKind.i64.wrap ((c:Int) * 10+(b:Int))=(c:Int) * 10+(b:Int):=IntWalk.i64_in _ oM
     have w3:IntKind.i64.wrap ((c:Int) * 10+(b:Int)-48)=(c:Int) * 10+(b:Int)-48:=IntWalk.i64_in _ oM
     have w4:IntKind.i64.wrap (b:Int)=(b:Int):=IntWalk.i64_in _ oM
     clear hnx hc hD
     go_wp2_with fail
     go_region
     go_wp2_with fail
     go_roundg (d-(i+1))
     case measure=>go_light;omega
     case rel=>go_light;exact ⟨i+1,by go_num,by omega,rfl,hid (by rw [HNX.out,show ((min (c * 10+(b-48)) 1000000000000:Nat):Int)=min ((c:Int) * 10+(b:Int)-48) 1000000000000 by omega];exact (HO.out.setE _).drew),hid (HR.out.other hRB).drew⟩
    ·obtain rfl:i=d:=oM
     have f1:decide (i<i)=false:=by simp
     have c0:=HO.out.c0
     have c1:=HO.out.c1
     have c2:=HO.out.c2
     have c3:=HO.out.c3
     have z3:=HO.out.z3
     have r0:=HR.out.c0
     have r1:=HR.out.c1
     have r2:=HR.out.c2
     have r3:=HR.out.c3
     have s0:=HR.out.z0
     have s1:=HR.out.z1
     have s2:=HR.out.z2
     have s3:=HR.out.z3
     cases em
     ·go_wp2_with fail
      exact HK1.out _ rfl _ _ ⟨(Fz.cons (Fz.cons (Fz.mk0 179 _ rfl) 3 _ rfl) 2 _ rfl),wr,rfl,HO.out.gr,HR.out,fun _=>HO.out.own⟩
     ·have hng:wrap64 (-((cut 1000000000000 ((s.data.toList.drop q).take i):Nat):Int))=-((cut 1000000000000 ((s.data.toList.drop q).take i):Nat):Int):=IntWalk.wrap64_in _ (by have:=cut_le 1000000000000 ((s.data.toList.drop q).take i);omega)
      go_wp2_with fail
      exact HK1.out _ rfl _ _ ⟨(Fz.cons (Fz.cons (Fz.mk0 179 _ rfl) 3 _ rfl) 2 _ rfl),_,rfl,(HO.out.setE _).gr,HR.out.other hRB,fun _=>(HO.out.setE _).own⟩
  ·have e2:((q:Int)+(d:Int) != (s.size:Int))=true:=by rw [bne_iff_ne];omega
   have HZ:=hid (HK0.out (.inr h1))
   clear h0 h1 HK0 HK1
   go_wp2_with fail
   refine (hrun _).mono ?_;rintro e w1 ⟨rfl,rfl⟩
   go_wp2_with fail
   exact HZ.out _ _ ⟨(Fz.cons (Fz.cons (Fz.mk0 179 _ rfl) 3 _ rfl) 2 _ rfl),w,rfl,HO.out.gr,HR.out,fun _=>HO.out.own⟩
def partOf:Code→Nat→Code
 | .seq _ b,n+1=>partOf b n
 | .seq a _,0=>a
 | c,_=>c
theorem rp10{c:Code}(hc:partOf (bodyOf f10) 10=c)(s:ByteArray)(hs:s.size≤80)(R B:Nat)(p:Nat)(hp:p<s.size)(x:Act)(hx:Fz 179 [(0,.string s),(2,.pointer (some ⟨R,0,none⟩)),(4,.pointer (some ⟨B,0,none⟩)),(5,.int .i64 (p:Nat))] x)(w:World)(K:Act→World→Prop)(Q:Exit→Act→World→Prop)(hk:∀x',Fz 179 [(0,.string s),(2,.pointer (some ⟨R,0,none⟩)),(4,.pointer (some ⟨B,0,none⟩)),(5,.int .i64 (p:Nat))] x'→K x' w): c.wp prog (Exit.then K Q) x w:=by
 subst hc
 have HK:=hid hk
 clear hk
 have kv0:=hx.at 0 (.string s) sM
 have kv2:=hx.at 2 (.pointer (some ⟨R,0,none⟩)) sM
 have kv4:=hx.at 4 (.pointer (some ⟨B,0,none⟩)) sM
 have kv5:=hx.at 5 (.int .i64 (p:Nat)) sM
 have e:=hx.lit179
 rw [e];simp only [kv0,kv2,kv4,kv5]
 clear hx e kv0 kv2 kv4 kv5
 have gen:=qG x
 obtain ⟨u,hu⟩ :=gen
 simp only [hu]
 clear hu x
 have:((p:Int)==(s.size:Int))=false:=by rw [beq_eq_false_iff_ne];omega
 show Code.wp _ (Code.seq _ _) _ _ _
 go_wp2_with fail
 exact HK.out _ (Fz.cons (Fz.cons (Fz.cons (Fz.cons (Fz.mk0 179 _ rfl) 5 _ rfl) 4 _ rfl) 2 _ rfl) 0 _ rfl)
theorem rp11{c:Code}(hc:partOf (bodyOf f10) 11=c)(s:ByteArray)(hs:s.size≤80)(R B:Nat)(p:Nat)(hp:p<s.size)(he:(s[p]'hp).toNat=101∨(s[p]'hp).toNat=69)(x:Act)(hx:Fz 179 [(0,.string s),(2,.pointer (some ⟨R,0,none⟩)),(4,.pointer (some ⟨B,0,none⟩)),(5,.int .i64 (p:Nat))] x)(w:World)(K:Act→World→Prop)(Q:Exit→Act→World→Prop)(hk:∀x',Fz 179 [(0,.string s),(2,.pointer (some ⟨R,0,none⟩)),(4,.pointer (some ⟨B,0,none⟩)),(5,.int .i64 (p:Nat))] x'→K x' w): c.wp prog (Exit.then K Q) x w:=by
 subst hc
 have HK:=hid hk
 clear hk
 have kv0:=hx.at 0 (.string s) sM
 have kv2:=hx.at 2 (.pointer (some ⟨R,0,none⟩)) sM
 have kv4:=hx.at 4 (.pointer (some ⟨B,0,none⟩)) sM
 have kv5:=hx.at 5 (.int .i64 (p:Nat)) sM
 have e:=hx.lit179
 rw [e];simp only [kv0,kv2,kv4,kv5]
 clear hx e kv0 kv2 kv4 kv5
 have gen:=qG x
 obtain ⟨u,hu⟩ :=gen
 simp only [hu]
 clear hu x
 have hX:=idx_run s p hp (p:Int) rfl
 obtain ⟨b,hb⟩:∃b,(s[p]'hp).toNat=b:=⟨_,rfl⟩
 rw [hb] at hX he
 have dd:((b:Int) != 101)=false∨(((b:Int) != 101)=true∧((b:Int) != 69)=false):=by rcases he with h|h <;> subst h <;> simp
 clear he
 rcases dd with dd|⟨dd,d2⟩
 ·show Code.wp _ (Code.seq _ _) _ _ _
  go_wp2_with fail
  exact HK.out _ (Fz.cons (Fz.cons (Fz.cons (Fz.cons (Fz.mk0 179 _ rfl) 5 _ rfl) 4 _ rfl) 2 _ rfl) 0 _ rfl)
 show Code.wp _ (Code.seq _ _) _ _ _
 go_wp2_with fail
 exact HK.out _ (Fz.cons (Fz.cons (Fz.cons (Fz.cons (Fz.mk0 179 _ rfl) 5 _ rfl) 4 _ rfl) 2 _ rfl) 0 _ rfl)
theorem rp12{c:Code}(hc:partOf (bodyOf f10) 12=c)(s:ByteArray)(hs:s.size≤80)(R B:Nat)(p:Nat)(hp:p<s.size)(x:Act)(hx:Fz 179 [(0,.string s),(2,.pointer (some ⟨R,0,none⟩)),(4,.pointer (some ⟨B,0,none⟩)),(5,.int .i64 (p:Nat))] x)(w:World)(K:Act→World→Prop)(Q:Exit→Act→World→Prop)(hk:∀x',Fz 179 [(0,.string s),(2,.pointer (some ⟨R,0,none⟩)),(4,.pointer (some ⟨B,0,none⟩)),(5,.int .i64 ((p+1:Nat):Int))] x'→K x' w): c.wp prog (Exit.then K Q) x w:=by
 subst hc
 have HK:=hid hk
 clear hk
 have kv0:=hx.at 0 (.string s) sM
 have kv2:=hx.at 2 (.pointer (some ⟨R,0,none⟩)) sM
 have kv4:=hx.at 4 (.pointer (some ⟨B,0,none⟩)) sM
 have kv5:=hx.at 5 (.int .i64 (p:Nat)) sM
 have e:=hx.lit179
 rw [e];simp only [kv0,kv2,kv4,kv5]
 clear hx e kv0 kv2 kv4 kv5
 have gen:=qG x
 obtain ⟨u,hu⟩ :=gen
 simp only [hu]
 clear hu x
 show Code.wp _ (Code.region _ _ _) _ _ _
 go_wp2_with fail
 exact HK.out _ (Fz.cons (Fz.cons (Fz.cons (Fz.cons (Fz.mk0 179 _ rfl) 5 _ rfl) 4 _ rfl) 2 _ rfl) 0 _ rfl)
theorem rp13m{c:Code}(hc:partOf (bodyOf f10) 13=c)(s:ByteArray)(hs:s.size≤80)(R B:Nat)(q:Nat)(hq:q<s.size)(he:(s[q]'hq).toNat=45)(x:Act)(hx:Fz 179 [(0,.string s),(2,.pointer (some ⟨R,0,none⟩)),(4,.pointer (some ⟨B,0,none⟩)),(5,.int .i64 (q:Nat))] x)(w:World)(K:Act→World→Prop)(Q:Exit→Act→World→Prop)(hk:∀x',Fz 179 [(0,.string s),(2,.pointer (some ⟨R,0,none⟩)),(4,.pointer (some ⟨B,0,none⟩)),(5,.int .i64 (q:Nat)),(10,.bool true)] x'→K x' w): c.wp prog (Exit.then K Q) x w:=by
 subst hc
 have HK:=hid hk
 clear hk
 have kv0:=hx.at 0 (.string s) sM
 have kv2:=hx.at 2 (.pointer (some ⟨R,0,none⟩)) sM
 have kv4:=hx.at 4 (.pointer (some ⟨B,0,none⟩)) sM
 have kv5:=hx.at 5 (.int .i64 (q:Nat)) sM
 have e:=hx.lit179
 rw [e];simp only [kv0,kv2,kv4,kv5]
 clear hx e kv0 kv2 kv4 kv5
 have gen:=qG x
 obtain ⟨u,hu⟩ :=gen
 simp only [hu]
 clear hu x
 have:(q:Int)<(s.size:Int):=oM
 have:decide ((q:Int)<(s.size:Int))=true:=by rw [decide_eq_true_eq];omega
 have hX:=idx_run s q hq (q:Int) rfl
 rw [he] at hX
 show Code.wp _ (Code.region _ _ _) _ _ _
 go_wp2_with fail
 exact HK.out _ (Fz.cons (Fz.cons (Fz.cons (Fz.cons (Fz.cons (Fz.mk0 179 _ rfl) 10 _ rfl) 5 _ rfl) 4 _ rfl) 2 _ rfl) 0 _ rfl)
theorem rp13o{c:Code}(hc:partOf (bodyOf f10) 13=c)(s:ByteArray)(hs:s.size≤80)(R B:Nat)(q:Nat)(hq:q<s.size)(he:(s[q]'hq).toNat≠45)(x:Act)(hx:Fz 179 [(0,.string s),(2,.pointer (some ⟨R,0,none⟩)),(4,.pointer (some ⟨B,0,none⟩)),(5,.int .i64 (q:Nat))] x)(w:World)(K:Act→World→Prop)(Q:Exit→Act→World→Prop)(hk:∀x',Fz 179 [(0,.string s),(2,.pointer (some ⟨R,0,none⟩)),(4,.pointer (some ⟨B,0,none⟩)),(5,.int .i64 (q:Nat)),(10,.bool false)] x'→K x' w): c.wp prog (Exit.then K Q) x w:=by
 subst hc
 have HK:=hid hk
 clear hk
 have kv0:=hx.at 0 (.string s) sM
 have kv2:=hx.at 2 (.pointer (some ⟨R,0,none⟩)) sM
 have kv4:=hx.at 4 (.pointer (some ⟨B,0,none⟩)) sM
 have kv5:=hx.at 5 (.int .i64 (q:Nat)) sM
 have e:=hx.lit179
 rw [e];simp only [kv0,kv2,kv4,kv5]
 clear hx e kv0 kv2 kv4 kv5
 have gen:=qG x
 obtain ⟨u,hu⟩ :=gen
 simp only [hu]
 clear hu x
 have:decide ((q:Int)<(s.size:Int))=true:=by rw [decide_eq_true_eq];omega
 have hX:=idx_run s q hq (q:Int) rfl
 obtain ⟨b,hb⟩:∃b,(s[q]'hq).toNat=b:=⟨_,rfl⟩
 rw [hb] at hX he
 have:((b:Int)==45)=false:=by rw [beq_eq_false_iff_ne];omega
 clear he
 show Code.wp _ (Code.region _ _ _) _ _ _
 go_wp2_with fail
 exact HK.out _ (Fz.cons (Fz.cons (Fz.cons (Fz.cons (Fz.cons (Fz.mk0 179 _ rfl) 10 _ rfl) 5 _ rfl) 4 _ rfl) 2 _ rfl) 0 _ rfl)
theorem rp13e{c:Code}(hc:partOf (bodyOf f10) 13=c)(s:ByteArray)(hs:s.size≤80)(R B:Nat)(q:Nat)(hq:q=s.size)(x:Act)(hx:Fz 179 [(0,.string s),(2,.pointer (some ⟨R,0,none⟩)),(4,.pointer (some ⟨B,0,none⟩)),(5,.int .i64 (q:Nat))] x)(w:World)(K:Act→World→Prop)(Q:Exit→Act→World→Prop)(hk:∀x',Fz 179 [(0,.string s),(2,.pointer (some ⟨R,0,none⟩)),(4,.pointer (some ⟨B,0,none⟩)),(5,.int .i64 (q:Nat)),(10,.bool false)] x'→K x' w): c.wp prog (Exit.then K Q) x w:=by
 subst hc
 have HK:=hid hk
 clear hk
 have kv0:=hx.at 0 (.string s) sM
 have kv2:=hx.at 2 (.pointer (some ⟨R,0,none⟩)) sM
 have kv4:=hx.at 4 (.pointer (some ⟨B,0,none⟩)) sM
 have kv5:=hx.at 5 (.int .i64 (q:Nat)) sM
 have e:=hx.lit179
 rw [e];simp only [kv0,kv2,kv4,kv5]
 clear hx e kv0 kv2 kv4 kv5
 have gen:=qG x
 obtain ⟨u,hu⟩ :=gen
 simp only [hu]
 clear hu x
 have:decide ((q:Int)<(s.size:Int))=false:=by rw [decide_eq_false_iff_not];omega
 show Code.wp _ (Code.region _ _ _) _ _ _
 go_wp2_with fail
 exact HK.out _ (Fz.cons (Fz.cons (Fz.cons (Fz.cons (Fz.cons (Fz.mk0 179 _ rfl) 10 _ rfl) 5 _ rfl) 4 _ rfl) 2 _ rfl) 0 _ rfl)
theorem rp14m{c:Code}(hc:partOf (bodyOf f10) 14=c)(s:ByteArray)(hs:s.size≤80)(R B:Nat)(q:Nat)(hq:q<s.size)(x:Act)(hx:Fz 179 [(0,.string s),(2,.pointer (some ⟨R,0,none⟩)),(4,.pointer (some ⟨B,0,none⟩)),(5,.int .i64 (q:Nat)),(10,.bool true)] x)(w:World)(K:Act→World→Prop)(Q:Exit→Act→World→Prop)(hk:∀x',Fz 179 [(0,.string s),(2,.pointer (some ⟨R,0,none⟩)),(4,.pointer (some ⟨B,0,none⟩)),(5,.int .i64 ((q+1:Nat):Int)),(10,.bool true)] x'→K x' w): c.wp prog (Exit.then K Q) x w:=by
 subst hc
 have HK:=hid hk
 clear hk
 have kv0:=hx.at 0 (.string s) sM
 have kv2:=hx.at 2 (.pointer (some ⟨R,0,none⟩)) sM
 have kv4:=hx.at 4 (.pointer (some ⟨B,0,none⟩)) sM
 have kv5:=hx.at 5 (.int .i64 (q:Nat)) sM
 have kv10:=hx.at 10 (.bool true) sM
 have e:=hx.lit179
 rw [e];simp only [kv0,kv2,kv4,kv5,kv10]
 clear hx e kv0 kv2 kv4 kv5 kv10
 have gen:=qG x
 obtain ⟨u,hu⟩ :=gen
 simp only [hu]
 clear hu x
 show Code.wp _ (Code.seq _ _) _ _ _
 go_wp2_with fail
 exact HK.out _ (Fz.cons (Fz.cons (Fz.cons (Fz.cons (Fz.cons (Fz.mk0 179 _ rfl) 10 _ rfl) 5 _ rfl) 4 _ rfl) 2 _ rfl) 0 _ rfl)
theorem rp14p{c:Code}(hc:partOf (bodyOf f10) 14=c)(s:ByteArray)(hs:s.size≤80)(R B:Nat)(q:Nat)(hq:q<s.size)(he:(s[q]'hq).toNat=43)(x:Act)(hx:Fz 179 [(0,.string s),(2,.pointer (some ⟨R,0,none⟩)),(4,.pointer (some ⟨B,0,none⟩)),(5,.int .i64 (q:Nat)),(10,.bool false)] x)(w:World)(K:Act→World→Prop)(Q:Exit→Act→World→Prop)(hk:∀x',Fz 179 [(0,.string s),(2,.pointer (some ⟨R,0,none⟩)),(4,.pointer (some ⟨B,0,none⟩)),(5,.int .i64 ((q+1:Nat):Int)),(10,.bool false)] x'→K x' w): c.wp prog (Exit.then K Q) x w:=by
 subst hc
 have HK:=hid hk
 clear hk
 have kv0:=hx.at 0 (.string s) sM
 have kv2:=hx.at 2 (.pointer (some ⟨R,0,none⟩)) sM
 have kv4:=hx.at 4 (.pointer (some ⟨B,0,none⟩)) sM
 have kv5:=hx.at 5 (.int .i64 (q:Nat)) sM
 have kv10:=hx.at 10 (.bool false) sM
 have e:=hx.lit179
 rw [e];simp only [kv0,kv2,kv4,kv5,kv10]
 clear hx e kv0 kv2 kv4 kv5 kv10
 have gen:=qG x
 obtain ⟨u,hu⟩ :=gen
 simp only [hu]
 clear hu x
 have:decide ((q:Int)<(s.size:Int))=true:=by rw [decide_eq_true_eq];omega
 have hX:=idx_run s q hq (q:Int) rfl
 rw [he] at hX
 show Code.wp _ (Code.seq _ _) _ _ _
 go_wp2_with fail
 exact HK.out _ (Fz.cons (Fz.cons (Fz.cons (Fz.cons (Fz.cons (Fz.mk0 179 _ rfl) 10 _ rfl) 5 _ rfl) 4 _ rfl) 2 _ rfl) 0 _ rfl)
theorem rp14o{c:Code}(hc:partOf (bodyOf f10) 14=c)(s:ByteArray)(hs:s.size≤80)(R B:Nat)(q:Nat)(hq:q<s.size)(he:(s[q]'hq).toNat≠43)(x:Act)(hx:Fz 179 [(0,.string s),(2,.pointer (some ⟨R,0,none⟩)),(4,.pointer (some ⟨B,0,none⟩)),(5,.int .i64 (q:Nat)),(10,.bool false)] x)(w:World)(K:Act→World→Prop)(Q:Exit→Act→World→Prop)(hk:∀x',Fz 179 [(0,.string s),(2,.pointer (some ⟨R,0,none⟩)),(4,.pointer (some ⟨B,0,none⟩)),(5,.int .i64 (q:Nat)),(10,.bool false)] x'→K x' w): c.wp prog (Exit.then K Q) x w:=by
 subst hc
 have HK:=hid hk
 clear hk
 have kv0:=hx.at 0 (.string s) sM
 have kv2:=hx.at 2 (.pointer (some ⟨R,0,none⟩)) sM
 have kv4:=hx.at 4 (.pointer (some ⟨B,0,none⟩)) sM
 have kv5:=hx.at 5 (.int .i64 (q:Nat)) sM
 have kv10:=hx.at 10 (.bool false) sM
 have e:=hx.lit179
 rw [e];simp only [kv0,kv2,kv4,kv5,kv10]
 clear hx e kv0 kv2 kv4 kv5 kv10
 have gen:=qG x
 obtain ⟨u,hu⟩ :=gen
 simp only [hu]
 clear hu x
 have:decide ((q:Int)<(s.size:Int))=true:=by rw [decide_eq_true_eq];omega
 have hX:=idx_run s q hq (q:Int) rfl
 obtain ⟨b,hb⟩:∃b,(s[q]'hq).toNat=b:=⟨_,rfl⟩
 rw [hb] at hX he
 have:((b:Int)==43)=false:=by rw [beq_eq_false_iff_ne];omega
 clear he
 show Code.wp _ (Code.seq _ _) _ _ _
 go_wp2_with fail
 exact HK.out _ (Fz.cons (Fz.cons (Fz.cons (Fz.cons (Fz.cons (Fz.mk0 179 _ rfl) 10 _ rfl) 5 _ rfl) 4 _ rfl) 2 _ rfl) 0 _ rfl)
theorem rp14e{c:Code}(hc:partOf (bodyOf f10) 14=c)(s:ByteArray)(hs:s.size≤80)(R B:Nat)(q:Nat)(hq:q=s.size)(x:Act)(hx:Fz 179 [(0,.string s),(2,.pointer (some ⟨R,0,none⟩)),(4,.pointer (some ⟨B,0,none⟩)),(5,.int .i64 (q:Nat)),(10,.bool false)] x)(w:World)(K:Act→World→Prop)(Q:Exit→Act→World→Prop)(hk:∀x',Fz 179 [(0,.string s),(2,.pointer (some ⟨R,0,none⟩)),(4,.pointer (some ⟨B,0,none⟩)),(5,.int .i64 (q:Nat)),(10,.bool false)] x'→K x' w): c.wp prog (Exit.then K Q) x w:=by
 subst hc
 have HK:=hid hk
 clear hk
 have kv0:=hx.at 0 (.string s) sM
 have kv2:=hx.at 2 (.pointer (some ⟨R,0,none⟩)) sM
 have kv4:=hx.at 4 (.pointer (some ⟨B,0,none⟩)) sM
 have kv5:=hx.at 5 (.int .i64 (q:Nat)) sM
 have kv10:=hx.at 10 (.bool false) sM
 have e:=hx.lit179
 rw [e];simp only [kv0,kv2,kv4,kv5,kv10]
 clear hx e kv0 kv2 kv4 kv5 kv10
 have gen:=qG x
 obtain ⟨u,hu⟩ :=gen
 simp only [hu]
 clear hu x
 have:decide ((q:Int)<(s.size:Int))=false:=by rw [decide_eq_false_iff_not];omega
 show Code.wp _ (Code.seq _ _) _ _ _
 go_wp2_with fail
 exact HK.out _ (Fz.cons (Fz.cons (Fz.cons (Fz.cons (Fz.cons (Fz.mk0 179 _ rfl) 10 _ rfl) 5 _ rfl) 4 _ rfl) 2 _ rfl) 0 _ rfl)
end Nn
end Go.Proofs.YtjcioljdlfdnbaaGreatDoor
