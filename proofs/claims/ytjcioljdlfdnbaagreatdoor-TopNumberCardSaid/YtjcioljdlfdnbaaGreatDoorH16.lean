/- Part 16: lemmas for TopNumber; no conditions. -/
import Derived.Test.YtjcioljdlfdnbaaGreatDoorH14
import Derived.Test.YtjcioljdlfdnbaaGreatDoorH15
set_option linter.unusedVariables false
set_option linter.unusedSimpArgs false
set_option maxRecDepth 100000
set_option maxHeartbeats 2000000
open Go.Proofs.Tryz
namespace Go.Proofs.YtjcioljdlfdnbaaGreatDoor
namespace Nn
open Go.RowKit
open Np
theorem wp_cutS{P:Program}{c:Code}{Q:Exit→Act→World→Prop}{a:Act}{w:World}(S:World→Prop)(A:Act)(h:c.wp P (Exit.then (fun a w=>a=A∧S w) Q) a w)(k:∀w,S w→Q .normal A w): c.wp P Q a w:=by
 refine wp_mono h ?_
 intro e a w hq
 cases e <;> first|(obtain ⟨rfl,hs⟩ :=hq;exact k _ hs)|exact hq
theorem rows4(w:World)(X Y Z:Array Value)(l:List Value)(V:World)(h:(((w.alloc (Obj.cells X 475)).alloc (Obj.cells Y 475)).alloc (Obj.cells Z 484)).alloc (Obj.cells Z 484)=V)(hl:l=Z.toList): (Bk w.heap.size X.toList V∧Bk (w.heap.size+1) Y.toList V)∧(Bk (w.heap.size+1+1) l V∧Bk (w.heap.size+1+1+1) l V)∧Below w.heap.size w V:=by
 subst h
 subst hl
 have a1:∀(V:World) (o:Obj),Below V.heap.size V (V.alloc o):=fun V o=>qR.alloc qL o
 have b1:=Bk.new w X 475
 have b2:=Bk.new (w.alloc (Obj.cells X 475)) Y 475
 have b3:=Bk.new ((w.alloc (Obj.cells X 475)).alloc (Obj.cells Y 475)) Z 484
 have b4:=Bk.new (((w.alloc (Obj.cells X 475)).alloc (Obj.cells Y 475)).alloc (Obj.cells Z 484)) Z 484
 simp only [World.size_alloc] at b2 b3 b4
 exact ⟨⟨((b1.below (a1 _ _)).below (a1 _ _)).below (a1 _ _),(b2.below (a1 _ _)).below (a1 _ _)⟩,⟨b3.below (a1 _ _),b4⟩,tq4⟩
theorem nsize_x(ma mb:Bool)(A B:ByteArray)(pa:Int)(hA:∀b∈A.data.toList,Dg b)(hB:∀b∈B.data.toList,Dg b)(w:World): Calls prog 400 #[.agg #[.bool ma,.string A,.int .i64 pa],.agg #[.bool mb,.string B,.int .i64 pa]] w fun e w'=>e=.returned (.int .i64 (lexn 20 (dig A.data.toList) (dig B.data.toList)))∧Below w.heap.size w w':=by
 have hz:∀w,(Go.sizeOf 5).run prog w=.ok 1 w:=fun _=>by kernel_rfl
 have HA:=hid hA
 have HB:=hid hB
 clear hA hB
 go_enter func400,ntmps400
 go_wp2_with fail
 obtain ⟨V,hV⟩:∃V,((((w.alloc (Obj.cells #[Value.bool ma,Value.string A,Value.int IntKind.i64 pa] 475)).alloc (Obj.cells #[Value.bool mb,Value.string B,Value.int IntKind.i64 pa] 475)).alloc (Obj.cells #[.int .u8 0,.int .u8 0,.int .u8 0,.int .u8 0,.int .u8 0,.int .u8 0,.int .u8 0,.int .u8 0,.int .u8 0,.int .u8 0,.int .u8 0,.int .u8 0,.int .u8 0,.int .u8 0,.int .u8 0,.int .u8 0,.int .u8 0,.int .u8 0,.int .u8 0,.int .u8 0] 484)).alloc (Obj.cells #[.int .u8 0,.int .u8 0,.int .u8 0,.int .u8 0,.int .u8 0,.int .u8 0,.int .u8 0,.int .u8 0,.int .u8 0,.int .u8 0,.int .u8 0,.int .u8 0,.int .u8 0,.int .u8 0,.int .u8 0,.int .u8 0,.int .u8 0,.int .u8 0,.int .u8 0,.int .u8 0] 484))=V:=⟨_,rfl⟩
 have I0:Hid ((Bk w.heap.size [.bool ma,.string A,.int .i64 pa] V∧Bk (w.heap.size+1) [.bool mb,.string B,.int .i64 pa] V)∧(Bk (w.heap.size+1+1) (r20 []) V∧Bk (w.heap.size+1+1+1) (r20 []) V)∧Below w.heap.size w V):=hid (rows4 w _ _ _ _ V hV rfl)
 rw [hV];clear hV
 generalize hC:w.heap.size=C at I0 ⊢
 have a0:=I0.out.1.1.c 1 _ rfl;have al:=I0.out.1.1.lt
 apply wp_cutS (fun W'=>Hid (Bk (C+1) [.bool mb,.string B,.int .i64 pa] W'∧(Bk (C+1+1) (r20 (dig A.data.toList)) W'∧Bk (C+1+1+1) (r20 []) W')∧Below C w W'))
 ·go_region_law ((first|(refine step_copy_min rfl _ _ 50 9 rfl 5 underlying50 hz (C+1+1) 0 20 20 rfl A rfl (fun j hj=>by rw [Nat.zero_add];exact (show (V.cell? ⟨C+1+1,j,none⟩).isSome=true by rw [I0.out.2.1.1.c j _ (r20_at [] j hj)];rfl)) (fun j hj=>by rw [Nat.zero_add];exact I0.out.2.1.1.z j (by rw [r20_len];exact hj)) ?_)))
  all_goals
   refine ⟨rfl,hid ⟨?_,⟨?_,?_⟩,?_⟩⟩
   ·repeat' (first|refine bk_setCells ?_ oM _ _|refine Bk.below ?_ qR.drew|exact I0.out.1.2)
   ·repeat' (first|refine bk_copy ?_ A HA.out|refine Bk.below ?_ qR.drew|exact I0.out.2.1.1)
   ·repeat' (first|refine bk_setCells ?_ oM _ _|refine Bk.below ?_ qR.drew|exact I0.out.2.1.2)
   ·repeat' (first|refine below_setCells2 ?_ oM _ _|refine Below.drew ?_|exact I0.out.2.2)
 rintro V1 I1
 clear a0 al I0
 have a0:=I1.out.1.c 1 _ rfl;have al:=I1.out.1.lt
 go_wp2_with fail
 apply wp_cutS (fun W'=>Hid ((Bk (C+1+1) (r20 (dig A.data.toList)) W'∧Bk (C+1+1+1) (r20 (dig B.data.toList)) W')∧Below C w W'))
 ·go_region_law ((first|(refine step_copy_min rfl _ _ 50 9 rfl 5 underlying50 hz (C+1+1+1) 0 20 20 rfl B rfl (fun j hj=>by rw [Nat.zero_add];exact (show (V1.cell? ⟨C+1+1+1,j,none⟩).isSome=true by rw [I1.out.2.1.2.c j _ (r20_at [] j hj)];rfl)) (fun j hj=>by rw [Nat.zero_add];exact I1.out.2.1.2.z j (by rw [r20_len];exact hj)) ?_)))
  all_goals
   refine ⟨rfl,hid ⟨⟨?_,?_⟩,?_⟩⟩
   ·repeat' (first|refine bk_setCells ?_ oM _ _|refine Bk.below ?_ qR.drew|exact I1.out.2.1.1)
   ·repeat' (first|refine bk_copy ?_ B HB.out|refine Bk.below ?_ qR.drew|exact I1.out.2.1.2)
   ·repeat' (first|refine below_setCells2 ?_ oM _ _|refine Below.drew ?_|exact I1.out.2.2)
 rintro V2 I2
 clear a0 al I1
 go_wp2_with fail
 obtain ⟨X,hX⟩:∃X,dig A.data.toList=X:=⟨_,rfl⟩
 obtain ⟨Y,hY⟩:∃Y,dig B.data.toList=Y:=⟨_,rfl⟩
 rw [hX,hY] at I2
 have HXY:=hid (And.intro hX hY)
 clear hX hY HA HB
 go_loopg [28] 20 (fun g v wr=>∃i:Nat,v=.int .i64 (i:Nat)∧i≤20∧g=20-i∧Hid (lexn 20 X Y=lexn (20-i) (X.drop i) (Y.drop i))∧Hid ((Bk (C+1+1) (r20 X) wr∧Bk (C+1+1+1) (r20 Y) wr)∧Below C w wr))
 case atStart=>exact ⟨0,rfl,by omega,rfl,hid rfl,I2⟩
 case round=>
  clear I2
  obtain ⟨i,rfl,hi,rfl,hL,I2⟩ :=hrel
  by_cases hlt:i<20
  ·have f1:decide ((i:Int)<20)=true:=by rw [decide_eq_true_eq];omega
   have:decide (i<20)=true:=by rw [decide_eq_true_eq];omega
   have hst:=lexn_step (20-(i+1)) X Y i
   rw [show 20-(i+1)+1=20-i by omega,←hL.out] at hst
   have x0:=I2.out.1.1.c i _ (r20_at X i hlt)
   have y0:=I2.out.1.2.c i _ (r20_at Y i hlt)
   have xl:=I2.out.1.1.lt;have yl:=I2.out.1.2.lt
   obtain ⟨a,ha⟩:∃a,bt X i=a:=⟨_,rfl⟩
   obtain ⟨b,hb⟩:∃b,bt Y i=b:=⟨_,rfl⟩
   rw [ha] at x0 hst
   rw [hb] at y0 hst
   clear ha hb
   rcases Nat.lt_trichotomy a b with h|h|h
   ·have g1:decide (a<b)=true:=by rw [decide_eq_true_eq];exact h
    have g2:decide ((a:Int)<(b:Int))=true:=by rw [decide_eq_true_eq];omega
    rw [if_pos h] at hst
    have HST:=hid hst
    clear hst
    go_wp2_with fail
    go_quiet (fail)
    go_wp2_with fail
    go_ret
    exact ⟨by rw [HXY.out.1,HXY.out.2,HST.out];rfl,by rw [hC];repeat' (first|refine below_drewN' ?_ _|exact I2.out.2)⟩
   ·subst h
    have g1:decide (a<a)=false:=by rw [decide_eq_false_iff_not];omega
    have g2:decide ((a:Int)<(a:Int))=false:=by rw [decide_eq_false_iff_not];omega
    rw [if_neg (Nat.lt_irrefl a),if_neg (Nat.lt_irrefl a)] at hst
    have HST:=hid hst
    clear hst
    go_wp2_with fail
    go_quiet (fail)
    go_wp2_with fail
    go_quiet (fail)
    go_wp2_with fail
    go_roundg (20-(i+1))
    case measure=>go_light;omega
    case rel=>go_light;exact ⟨i+1,by go_num,by omega,rfl,hid HST.out,hid ⟨⟨I2.out.1.1.below (below_drewN' qR _),I2.out.1.2.below (below_drewN' qR _)⟩,below_drewN' I2.out.2 _⟩⟩
   ·have g1:decide (a<b)=false:=by rw [decide_eq_false_iff_not];omega
    have g2:decide ((a:Int)<(b:Int))=false:=by rw [decide_eq_false_iff_not];omega
    have:decide (b<a)=true:=by rw [decide_eq_true_eq];exact h
    have:decide ((b:Int)<(a:Int))=true:=by rw [decide_eq_true_eq];omega
    rw [if_neg (by omega),if_pos h] at hst
    have HST:=hid hst
    clear hst
    go_wp2_with fail
    go_quiet (fail)
    go_wp2_with fail
    go_quiet (fail)
    go_wp2_with fail
    go_ret
    exact ⟨by rw [HXY.out.1,HXY.out.2,HST.out];rfl,by rw [hC];repeat' (first|refine below_drewN' ?_ _|exact I2.out.2)⟩
  ·obtain rfl:i=20:=oM
   have f1:decide (((20:Nat):Int)<20)=false:=by decide
   have HST:Hid (lexn 20 X Y=0):=hid hL.out
   go_wp2_with fail
   go_ret
   exact ⟨by rw [HXY.out.1,HXY.out.2,HST.out];rfl,by rw [hC];exact I2.out.2⟩
theorem nsize_any(ma mb:Bool)(A B:ByteArray)(pa pb:Int)(hA:∀b∈A.data.toList,Dg b)(hB:∀b∈B.data.toList,Dg b)(w:World): Calls prog 400 #[.agg #[.bool ma,.string A,.int .i64 pa],.agg #[.bool mb,.string B,.int .i64 pb]] w fun e w'=>e=.returned (.int .i64 (psize ⟨ma,dig A.data.toList,pa⟩ ⟨mb,dig B.data.toList,pb⟩))∧Below w.heap.size w w':=by
 have hp:psize ⟨ma,dig A.data.toList,pa⟩ ⟨mb,dig B.data.toList,pb⟩=if pa<pb then -1 else if pb<pa then 1 else lexn 20 (dig A.data.toList) (dig B.data.toList):=rfl
 rw [hp]
 by_cases h1:pa<pb
 ·have g1:decide (pa<pb)=true:=by rw [decide_eq_true_eq];exact h1
  rw [if_pos h1]
  clear hp hA hB
  go_enter func400,ntmps400
  go_wp2_with fail
  go_ret
  exact ⟨rfl,tq4⟩
 ·by_cases h2:pb<pa
  ·have g1:decide (pa<pb)=false:=by rw [decide_eq_false_iff_not];exact h1
   have:decide (pb<pa)=true:=by rw [decide_eq_true_eq];exact h2
   rw [if_neg h1,if_pos h2]
   clear hp hA hB
   go_enter func400,ntmps400
   go_wp2_with fail
   go_ret
   exact ⟨rfl,tq4⟩
  ·obtain rfl:pa=pb:=oM
   rw [if_neg h1,if_neg h2]
   exact nsize_x ma mb A B pa hA hB w
end Nn
section
open Go.RowKit
theorem gr_bel{W w1:World}{m B:Nat}(h:W.grownBy w1 (some m))(hB:B≤W.heap.size)(hm:B≤m): Below B W w1:=
 ⟨h.os,h.tape,h.output,by have:=h.size;omega,fun k hk=>h.block k oM (by simp;omega)⟩
structure Cd (gp gs gl:Nat) (w:World):Prop where
 p:CT gp w
 s:CG gs w
 l:CL gl w
def MakeP (w:World) (e:Ending) (w':World):Prop:=∃gp cp gs cs gl cl,e=.returned (.agg #[.slice (some ⟨gp,0,none⟩) 1 cp,.slice (some ⟨gs,0,none⟩) 1 cs,.slice (some ⟨gl,0,none⟩) 1 cl,.slice none 0 0])∧Cd gp gs gl w'∧(w.heap.size≤gp∧w.heap.size≤gs∧w.heap.size≤gl∧1≤cs∧1≤cl)∧Below w.heap.size w w'
theorem cmake_0(q c s:Nat)(w:World)(hP:Pa w q s): Calls prog 45 #[.agg #[.bool true,.slice (some ⟨q,0,none⟩) 1 (c:Nat)]] w fun e w'=>MakeP w e w':=by
 go_enter func45,ntmps45
 go_wp2_with (first|(refine wp_loop_unr 3 ?_;refine Unr.step ?_;intro U hU)|(refine Unr.step ?_;intro U hU))
 refine (cpath_0 (w.heap.size+1+1+1) (w.heap.size+1+1) q c s _ ⟨by simp,by simp [go_sem],by simp [go_sem],by simp [go_sem],by simp [go_sem],by simp [go_sem],by simp [go_sem],by simp [go_sem],by simp [go_sem]⟩ (hP.below tq4)).mono ?_;rintro e w1 ⟨rfl,gp,cp,gs,cs,gl,cl,HC,HT,HG,HL,h1,h2,h3,k1,k2⟩
 have hb:=HC.gr.block (w.heap.size+1) sM sM
 have r0:=World.cell?_of_block (a:=⟨w.heap.size+1,0,none⟩) hb;simp [go_sem] at r0
 have rf0:=World.frozen?_of_block (a:=⟨w.heap.size+1,0,none⟩) hb;simp [go_sem] at rf0
 have r1:=World.cell?_of_block (a:=⟨w.heap.size+1,1,none⟩) hb;simp [go_sem] at r1
 have rf1:=World.frozen?_of_block (a:=⟨w.heap.size+1,1,none⟩) hb;simp [go_sem] at rf1
 have r2:=World.cell?_of_block (a:=⟨w.heap.size+1,2,none⟩) hb;simp [go_sem] at r2
 have rf2:=World.frozen?_of_block (a:=⟨w.heap.size+1,2,none⟩) hb;simp [go_sem] at rf2
 have r3:=World.cell?_of_block (a:=⟨w.heap.size+1,3,none⟩) hb;simp [go_sem] at r3
 have rf3:=World.frozen?_of_block (a:=⟨w.heap.size+1,3,none⟩) hb;simp [go_sem] at rf3
 have m0:=HC.m0;have m1:=HC.m1;have m2:=HC.m2;have m3:=HC.m3;have m4:=HC.m4;have wl:=HC.wl
 have:Hid (Below w.heap.size w w1):=hid (Below.trans tq4 (gr_bel HC.gr (by simp;omega) oM))
 simp at wl h1 h2 h3
 have:w.heap.size+1<w1.heap.size:=oM
 have:w.heap.size+1+1+1<w1.heap.size:=oM
 go_wp2_with (first|(refine wp_loop_unr 3 ?_;refine Unr.step ?_;intro U hU)|(refine Unr.step ?_;intro U hU))
 try simp only [Exit.inBlock,Exit.then]
 refine bodyPost_ret (v:=.agg #[.slice (some ⟨gp,0,none⟩) 1 cp,.slice (some ⟨gs,0,none⟩) 1 cs,.slice (some ⟨gl,0,none⟩) 1 cl,.slice none 0 0]) (by simp [results,results45,go_sem,r0,r1,r2,r3]) rfl ⟨gp,cp,gs,cs,gl,cl,rfl,⟨by repeat' (first|refine CT.set ?_ tq3 _|exact HT),by repeat' (first|refine CG.set ?_ tq3 _|exact HG),by repeat' (first|refine CL.set ?_ tq3 _|exact HL)⟩,⟨by omega,by omega,by omega,k1,k2⟩,tq4⟩
theorem Cd.below{w w':World}{gp gs gl:Nat}(h:Cd gp gs gl w)(hb:Below w.heap.size w w'): Cd gp gs gl w':=⟨h.p.below hb,h.s.below hb,h.l.below hb⟩
theorem Cd.set{w:World}{gp gs gl:Nat}(h:Cd gp gs gl w){a:Addr}(h1:a.block≠gp)(h2:a.block≠gs)(h3:a.block≠gl)(v:Value): Cd gp gs gl (w.setCell a v):=⟨h.p.set h1 v,h.s.set h2 v,h.l.set h3 v⟩
def QueryP (w:World) (e:Ending) (w':World):Prop:=∃gp cp gs cs gl cl,e=.returned (.tuple #[.agg #[.slice (some ⟨gp,0,none⟩) 1 cp,.slice (some ⟨gs,0,none⟩) 1 cs,.slice (some ⟨gl,0,none⟩) 1 cl,.slice none 0 0],.agg #[.int .i64 0,.int .i64 0]])∧Cd gp gs gl w'∧(1≤cs∧1≤cl)∧Below w.heap.size w w'
theorem query_any(w:World): Calls prog 26 #[.string ⟨#[36,91,48,93]⟩] w fun e w'=>QueryP w e w':=by
 go_enter func26,ntmps26
 go_wp2_with fail
 refine (parse_any _).mono ?_;rintro e w1 ⟨q,c,s,rfl,hq,hs,hP,hb1⟩
 have s1:=hb1.size;try simp at s1
 try (have:w.heap.size<w1.heap.size:=oM)
 try (have:w.heap.size<w1.heap.size+1:=oM)
 try (have:w.heap.size<w1.heap.size+1+1:=oM)
 try (have:w.heap.size+1<w1.heap.size:=oM)
 try (have:w.heap.size+1<w1.heap.size+1:=oM)
 try (have:w.heap.size+1<w1.heap.size+1+1:=oM)
 try (have e1_0_0_0:=hb1.cl w.heap.size 0;simp [go_sem, *] at e1_0_0_0)
 try (have f1_0_0_0:=hb1.fz w.heap.size 0;simp [go_sem, *] at f1_0_0_0)
 try (have e1_0_0_1:=hb1.cl w.heap.size 1;simp [go_sem, *] at e1_0_0_1)
 try (have f1_0_0_1:=hb1.fz w.heap.size 1;simp [go_sem, *] at f1_0_0_1)
 try (have e1_0_0_2:=hb1.cl w.heap.size 2;simp [go_sem, *] at e1_0_0_2)
 try (have f1_0_0_2:=hb1.fz w.heap.size 2;simp [go_sem, *] at f1_0_0_2)
 try (have e1_0_0_3:=hb1.cl w.heap.size 3;simp [go_sem, *] at e1_0_0_3)
 try (have f1_0_0_3:=hb1.fz w.heap.size 3;simp [go_sem, *] at f1_0_0_3)
 try (have e1_0_1_0:=hb1.cl (w.heap.size+1) 0;simp [go_sem, *] at e1_0_1_0)
 try (have f1_0_1_0:=hb1.fz (w.heap.size+1) 0;simp [go_sem, *] at f1_0_1_0)
 try (have e1_0_1_1:=hb1.cl (w.heap.size+1) 1;simp [go_sem, *] at e1_0_1_1)
 try (have f1_0_1_1:=hb1.fz (w.heap.size+1) 1;simp [go_sem, *] at f1_0_1_1)
 have HB1:=bel_step (w:=w) tq4 hb1
 clear hb1
 go_wp2_with fail
 refine (cmake_0 q c s _ (hP.below tq4)).mono ?_;rintro e w2 ⟨gp,cp,gs,cs,gl,cl,rfl,hC,⟨hgp,hgs,hgl,k1,k2⟩,hb2⟩
 have s2:=hb2.size;try simp at s2
 simp at hgp hgs hgl
 try (have:w.heap.size<w2.heap.size:=oM)
 try (have:w.heap.size<w2.heap.size+1:=oM)
 try (have:w.heap.size<w2.heap.size+1+1:=oM)
 try (have:w.heap.size+1<w2.heap.size:=oM)
 try (have:w.heap.size+1<w2.heap.size+1:=oM)
 try (have:w.heap.size+1<w2.heap.size+1+1:=oM)
 try (have e2_0_0_0:=hb2.cl w.heap.size 0;simp [go_sem, *] at e2_0_0_0)
 try (have f2_0_0_0:=hb2.fz w.heap.size 0;simp [go_sem, *] at f2_0_0_0)
 try (have e2_0_0_1:=hb2.cl w.heap.size 1;simp [go_sem, *] at e2_0_0_1)
 try (have f2_0_0_1:=hb2.fz w.heap.size 1;simp [go_sem, *] at f2_0_0_1)
 try (have e2_0_0_2:=hb2.cl w.heap.size 2;simp [go_sem, *] at e2_0_0_2)
 try (have f2_0_0_2:=hb2.fz w.heap.size 2;simp [go_sem, *] at f2_0_0_2)
 try (have e2_0_0_3:=hb2.cl w.heap.size 3;simp [go_sem, *] at e2_0_0_3)
 try (have f2_0_0_3:=hb2.fz w.heap.size 3;simp [go_sem, *] at f2_0_0_3)
 try (have e2_0_1_0:=hb2.cl (w.heap.size+1) 0;simp [go_sem, *] at e2_0_1_0)
 try (have f2_0_1_0:=hb2.fz (w.heap.size+1) 0;simp [go_sem, *] at f2_0_1_0)
 try (have e2_0_1_1:=hb2.cl (w.heap.size+1) 1;simp [go_sem, *] at e2_0_1_1)
 try (have f2_0_1_1:=hb2.fz (w.heap.size+1) 1;simp [go_sem, *] at f2_0_1_1)
 have HB2:=bel_step (w:=w) tq4 hb2
 clear hb2
 go_wp2_with fail
 try simp only [Exit.inBlock,Exit.then]
 refine bodyPost_ret (v:=.tuple #[.agg #[.slice (some ⟨gp,0,none⟩) 1 cp,.slice (some ⟨gs,0,none⟩) 1 cs,.slice (some ⟨gl,0,none⟩) 1 cl,.slice none 0 0],.agg #[.int .i64 0,.int .i64 0]]) (by simp [results,results26,go_sem, *]) rfl ⟨gp,cp,gs,cs,gl,cl,rfl,?_,⟨k1,k2⟩,tq4⟩
 repeat' (first|refine Cd.set ?_ tq3 tq3 tq3 _|refine Cd.below ?_ (qR.alloc qL _)|exact hC)
structure Mc (gp cp gs cs gl cl p:Nat) (k:Int) (g:Nat) (W:World):Prop where
 lt:g<W.heap.size
 c0:W.cell? ⟨g,0,none⟩=some (.slice (some ⟨gp,0,none⟩) 1 cp)
 c1:W.cell? ⟨g,1,none⟩=some (.slice (some ⟨gs,0,none⟩) 1 cs)
 c2:W.cell? ⟨g,2,none⟩=some (.slice (some ⟨gl,0,none⟩) 1 cl)
 c3:W.cell? ⟨g,3,none⟩=some (.slice none 0 0)
 c4:W.cell? ⟨g,4,none⟩=some (.pointer (some ⟨p,0,none⟩))
 c5:W.cell? ⟨g,5,none⟩=some (.int .i64 (-1))
 c6:W.cell? ⟨g,6,none⟩=some (.int .i64 k)
 z6:W.frozen? ⟨g,6,none⟩=false
theorem Mc.of{W W':World}{g:Nat}{gp cp gs cs gl cl p:Nat}{k:Int}(h:Mc gp cp gs cs gl cl p k g W)(hs:W.heap.size≤W'.heap.size)(hc:∀c,W'.cell? ⟨g,c,none⟩=W.cell? ⟨g,c,none⟩)(hf:∀c,W'.frozen? ⟨g,c,none⟩=W.frozen? ⟨g,c,none⟩): Mc gp cp gs cs gl cl p k g W':=⟨Nat.lt_of_lt_of_le h.lt hs,(hc 0).trans h.c0,(hc 1).trans h.c1,(hc 2).trans h.c2,(hc 3).trans h.c3,(hc 4).trans h.c4,(hc 5).trans h.c5,(hc 6).trans h.c6,(hf 6).trans h.z6⟩
theorem Mc.below{W W':World}{g:Nat}{gp cp gs cs gl cl p:Nat}{k:Int}(h:Mc gp cp gs cs gl cl p k g W)(hb:Below W.heap.size W W'): Mc gp cp gs cs gl cl p k g W':=h.of hb.size (fun c=>hb.cell (p:=⟨g,c,none⟩) h.lt) (fun c=>hb.frozen (p:=⟨g,c,none⟩) h.lt)
theorem Mc.set{W:World}{g:Nat}{gp cp gs cs gl cl p:Nat}{k:Int}(h:Mc gp cp gs cs gl cl p k g W){a:Addr}(hne:a.block≠g)(v:Value): Mc gp cp gs cs gl cl p k g (W.setCell a v):=h.of (by simp [World.setCell]) (fun c=>qO (by intro e;exact hne (by rw [e]))) (fun c=>qF)
theorem Mc.setK{W:World}{g:Nat}{gp cp gs cs gl cl p:Nat}{k:Int}(h:Mc gp cp gs cs gl cl p k g W)(k':Int): Mc gp cp gs cs gl cl p k' g (W.setCell ⟨g,6,none⟩ (.int .i64 k')):=⟨by simpa [World.setCell] using h.lt,(qO tq9).trans h.c0,(qO tq9).trans h.c1,(qO tq9).trans h.c2,(qO tq9).trans h.c3,(qO tq9).trans h.c4,(qO tq9).trans h.c5,World.cell?_setCell_same' _ _ _ (by rw [h.c6];rfl),qF.trans h.z6⟩
structure Wk (m:Nat) (st fd:Value) (mo:Int) (g:Nat) (W:World):Prop where
 lt:g<W.heap.size
 c0:W.cell? ⟨g,0,none⟩=some (.pointer (some ⟨m,0,none⟩))
 c1:W.cell? ⟨g,1,none⟩=some (.bool true)
 c2:W.cell? ⟨g,2,none⟩=some (.int .i64 0)
 c3:W.cell? ⟨g,3,none⟩=some (.int .i64 1)
 c4:W.cell? ⟨g,4,none⟩=some (st)
 c5:W.cell? ⟨g,5,none⟩=some (fd)
 c6:W.cell? ⟨g,6,none⟩=some (.int .i64 mo)
 c7:W.cell? ⟨g,7,none⟩=some (.int .i64 0)
 z4:W.frozen? ⟨g,4,none⟩=false
 z5:W.frozen? ⟨g,5,none⟩=false
 z7:W.frozen? ⟨g,7,none⟩=false
theorem Wk.of{W W':World}{g:Nat}{m:Nat}{st fd:Value}{mo:Int}(h:Wk m st fd mo g W)(hs:W.heap.size≤W'.heap.size)(hc:∀c,W'.cell? ⟨g,c,none⟩=W.cell? ⟨g,c,none⟩)(hf:∀c,W'.frozen? ⟨g,c,none⟩=W.frozen? ⟨g,c,none⟩): Wk m st fd mo g W':=⟨Nat.lt_of_lt_of_le h.lt hs,(hc 0).trans h.c0,(hc 1).trans h.c1,(hc 2).trans h.c2,(hc 3).trans h.c3,(hc 4).trans h.c4,(hc 5).trans h.c5,(hc 6).trans h.c6,(hc 7).trans h.c7,(hf 4).trans h.z4,(hf 5).trans h.z5,(hf 7).trans h.z7⟩
theorem Wk.below{W W':World}{g:Nat}{m:Nat}{st fd:Value}{mo:Int}(h:Wk m st fd mo g W)(hb:Below W.heap.size W W'): Wk m st fd mo g W':=h.of hb.size (fun c=>hb.cell (p:=⟨g,c,none⟩) h.lt) (fun c=>hb.frozen (p:=⟨g,c,none⟩) h.lt)
theorem Wk.set{W:World}{g:Nat}{m:Nat}{st fd:Value}{mo:Int}(h:Wk m st fd mo g W){a:Addr}(hne:a.block≠g)(v:Value): Wk m st fd mo g (W.setCell a v):=h.of (by simp [World.setCell]) (fun c=>qO (by intro e;exact hne (by rw [e]))) (fun c=>qF)
theorem Wk.setS{W:World}{g:Nat}{m:Nat}{st fd:Value}{mo:Int}(h:Wk m st fd mo g W)(st':Value): Wk m st' fd mo g (W.setCell ⟨g,4,none⟩ (st')):=⟨by simpa [World.setCell] using h.lt,(qO tq9).trans h.c0,(qO tq9).trans h.c1,(qO tq9).trans h.c2,(qO tq9).trans h.c3,World.cell?_setCell_same' _ _ _ (by rw [h.c4];rfl),(qO tq9).trans h.c5,(qO tq9).trans h.c6,(qO tq9).trans h.c7,qF.trans h.z4,qF.trans h.z5,qF.trans h.z7⟩
theorem Wk.setF{W:World}{g:Nat}{m:Nat}{st fd:Value}{mo:Int}(h:Wk m st fd mo g W)(fd':Value): Wk m st fd' mo g (W.setCell ⟨g,5,none⟩ (fd')):=⟨by simpa [World.setCell] using h.lt,(qO tq9).trans h.c0,(qO tq9).trans h.c1,(qO tq9).trans h.c2,(qO tq9).trans h.c3,(qO tq9).trans h.c4,World.cell?_setCell_same' _ _ _ (by rw [h.c5];rfl),(qO tq9).trans h.c6,(qO tq9).trans h.c7,qF.trans h.z4,qF.trans h.z5,qF.trans h.z7⟩
structure Fr (p:Nat) (sl:Int) (nx:Value) (g:Nat) (W:World):Prop where
 lt:g<W.heap.size
 c0:W.cell? ⟨g,0,none⟩=some (.int .i64 0)
 c1:W.cell? ⟨g,1,none⟩=some (.int .i64 sl)
 c2:W.cell? ⟨g,2,none⟩=some (.pointer (some ⟨p,0,none⟩))
 c3:W.cell? ⟨g,3,none⟩=some (.int .i64 (-1))
 c4:W.cell? ⟨g,4,none⟩=some (.pointer (some ⟨p,0,none⟩))
 c5:W.cell? ⟨g,5,none⟩=some (.int .i64 (-1))
 c6:W.cell? ⟨g,6,none⟩=some (nx)
 z1:W.frozen? ⟨g,1,none⟩=false
 z6:W.frozen? ⟨g,6,none⟩=false
theorem Fr.of{W W':World}{g:Nat}{p:Nat}{sl:Int}{nx:Value}(h:Fr p sl nx g W)(hs:W.heap.size≤W'.heap.size)(hc:∀c,W'.cell? ⟨g,c,none⟩=W.cell? ⟨g,c,none⟩)(hf:∀c,W'.frozen? ⟨g,c,none⟩=W.frozen? ⟨g,c,none⟩): Fr p sl nx g W':=⟨Nat.lt_of_lt_of_le h.lt hs,(hc 0).trans h.c0,(hc 1).trans h.c1,(hc 2).trans h.c2,(hc 3).trans h.c3,(hc 4).trans h.c4,(hc 5).trans h.c5,(hc 6).trans h.c6,(hf 1).trans h.z1,(hf 6).trans h.z6⟩
theorem Fr.below{W W':World}{g:Nat}{p:Nat}{sl:Int}{nx:Value}(h:Fr p sl nx g W)(hb:Below W.heap.size W W'): Fr p sl nx g W':=h.of hb.size (fun c=>hb.cell (p:=⟨g,c,none⟩) h.lt) (fun c=>hb.frozen (p:=⟨g,c,none⟩) h.lt)
theorem Fr.set{W:World}{g:Nat}{p:Nat}{sl:Int}{nx:Value}(h:Fr p sl nx g W){a:Addr}(hne:a.block≠g)(v:Value): Fr p sl nx g (W.setCell a v):=h.of (by simp [World.setCell]) (fun c=>qO (by intro e;exact hne (by rw [e]))) (fun c=>qF)
theorem Fr.setL{W:World}{g:Nat}{p:Nat}{sl:Int}{nx:Value}(h:Fr p sl nx g W)(sl':Int): Fr p sl' nx g (W.setCell ⟨g,1,none⟩ (.int .i64 sl')):=⟨by simpa [World.setCell] using h.lt,(qO tq9).trans h.c0,World.cell?_setCell_same' _ _ _ (by rw [h.c1];rfl),(qO tq9).trans h.c2,(qO tq9).trans h.c3,(qO tq9).trans h.c4,(qO tq9).trans h.c5,(qO tq9).trans h.c6,qF.trans h.z1,qF.trans h.z6⟩
theorem Fr.setN{W:World}{g:Nat}{p:Nat}{sl:Int}{nx:Value}(h:Fr p sl nx g W)(nx':Value): Fr p sl nx' g (W.setCell ⟨g,6,none⟩ (nx')):=⟨by simpa [World.setCell] using h.lt,(qO tq9).trans h.c0,(qO tq9).trans h.c1,(qO tq9).trans h.c2,(qO tq9).trans h.c3,(qO tq9).trans h.c4,(qO tq9).trans h.c5,World.cell?_setCell_same' _ _ _ (by rw [h.c6];rfl),qF.trans h.z1,qF.trans h.z6⟩
structure Cw (p:Nat) (g:Nat) (W:World):Prop where
 lt:g<W.heap.size
 c0:W.cell? ⟨g,0,none⟩=some (.pointer (some ⟨p,0,none⟩))
 c1:W.cell? ⟨g,1,none⟩=some (.int .i64 1)
theorem Cw.of{W W':World}{g:Nat}{p:Nat}(h:Cw p g W)(hs:W.heap.size≤W'.heap.size)(hc:∀c,W'.cell? ⟨g,c,none⟩=W.cell? ⟨g,c,none⟩)(hf:∀c,W'.frozen? ⟨g,c,none⟩=W.frozen? ⟨g,c,none⟩): Cw p g W':=⟨Nat.lt_of_lt_of_le h.lt hs,(hc 0).trans h.c0,(hc 1).trans h.c1⟩
theorem Cw.below{W W':World}{g:Nat}{p:Nat}(h:Cw p g W)(hb:Below W.heap.size W W'): Cw p g W':=h.of hb.size (fun c=>hb.cell (p:=⟨g,c,none⟩) h.lt) (fun c=>hb.frozen (p:=⟨g,c,none⟩) h.lt)
theorem Cw.set{W:World}{g:Nat}{p:Nat}(h:Cw p g W){a:Addr}(hne:a.block≠g)(v:Value): Cw p g (W.setCell a v):=h.of (by simp [World.setCell]) (fun c=>qO (by intro e;exact hne (by rw [e]))) (fun c=>qF)
end
section
open Go.RowKit
theorem info382: (prog.info? 359).map (fun i=>(i.zero,i.size,i.bytes))=some (some (.agg #[.int .i64 0,.int .i64 0,.pointer none,.int .i64 0,.pointer none,.int .i64 0,.nilFunc]),7,56):=by kernel_rfl
theorem run_store_nilFunc{P:Program}{w:World}{a:Addr}{m:Mode}: (store a .nilFunc m).run P w=stored P w a .nilFunc m:=run_store P w a _ m rfl
theorem run_store_func{P:Program}{w:World}{a:Addr}{m:Mode}(f:Fn)(b c:Array Value): (store a (.func f b c) m).run P w=stored P w a (.func f b c) m:=run_store P w a _ m rfl
attribute [local go_sem] run_store_nilFunc run_store_func
theorem step_push_dd{P:Program}{ops:Array Oper}{o:Oper}{a:Act}{K:Act→World→Prop}{Q:Exit→Act→World→Prop}{E:Prop}{w0 w:World}{C:Array Value}{ty:TypeId}(hgd:o.guard=none)(s x:Operand)(t:TypeId)(ho:o.op=.call { callee:=.builtin .append,args:=#[s,x],argTypes:=#[t,t] })(e:TypeId)(i:TypeInfo)(z:Value)(size bytes:Nat)(ht:P.underlying t=some (.slice e))(hi:P.info? e=some i)(hz:i.zero=some z)(hsize:i.size=size)(hby:i.bytes=bytes)(hzs:z.cells.size=size)(hsz:0<size){v:Value}{n:Nat}{xs:List Value}(hA:Acc w0 w.drew.drew e size v n xs)(hs:a.eval s=v){H:Nat}(hx:a.eval x=.slice (some ⟨H,0,none⟩) 1 1)(hH:w.heap.size=H)(hC:C.size=size)(h1:C.toList.all (·.oneCell')=true)(h63:n<1000)(hbytes:bytes≤1000)(h:∀g cap w',Acc w0 w' e size (.slice (some ⟨g,0,none⟩) (n+1) cap) (n+1) (xs++C.toList)→K (a.put o.dst (.slice (some ⟨g,0,none⟩) (n+1) cap)) w'):
  if Region.wanted o (yielded ops a.tmps)=true then Oper.wp P o a (w.alloc (.cells C ty)).drew.drew K Q else E:=
 step_push (w:=w.drew.drew) hgd s x t ho e i z size bytes ht hi hz hsize hby hzs hsz hA hs hx hH hC h1 h63 hbytes h
theorem step_push_d3{P:Program}{ops:Array Oper}{o:Oper}{a:Act}{K:Act→World→Prop}{Q:Exit→Act→World→Prop}{E:Prop}{w0 w:World}{C:Array Value}{ty:TypeId}(hgd:o.guard=none)(s x:Operand)(t:TypeId)(ho:o.op=.call { callee:=.builtin .append,args:=#[s,x],argTypes:=#[t,t] })(e:TypeId)(i:TypeInfo)(z:Value)(size bytes:Nat)(ht:P.underlying t=some (.slice e))(hi:P.info? e=some i)(hz:i.zero=some z)(hsize:i.size=size)(hby:i.bytes=bytes)(hzs:z.cells.size=size)(hsz:0<size){v:Value}{n:Nat}{xs:List Value}(hA:Acc w0 w.drew.drew.drew e size v n xs)(hs:a.eval s=v){H:Nat}(hx:a.eval x=.slice (some ⟨H,0,none⟩) 1 1)(hH:w.heap.size=H)(hC:C.size=size)(h1:C.toList.all (·.oneCell')=true)(h63:n<1000)(hbytes:bytes≤1000)(h:∀g cap w',Acc w0 w' e size (.slice (some ⟨g,0,none⟩) (n+1) cap) (n+1) (xs++C.toList)→K (a.put o.dst (.slice (some ⟨g,0,none⟩) (n+1) cap)) w'):
  if Region.wanted o (yielded ops a.tmps)=true then Oper.wp P o a (w.alloc (.cells C ty)).drew.drew.drew K Q else E:=
 step_push (w:=w.drew.drew.drew) hgd s x t ho e i z size bytes ht hi hz hsize hby hzs hsz hA hs hx hH hC h1 h63 hbytes h
theorem Acc.frz{w0 w:World}{e:TypeId}{size:Nat}{g cap n:Nat}{xs:List Value}(h:Acc w0 w e size (.slice (some ⟨g,0,none⟩) (n+1) cap) (n+1) xs)(j:Nat): w.frozen? ⟨g,j,none⟩=false:=by
 rcases h.own.2 with ⟨hv,h0⟩|⟨g',cap',cur,hv,hb,hg,_,_,hs,hx⟩
 ·omega
 ·injection hv with hv _ _
  injection hv with hv
  injection hv with hv _ _
  subst hv
  simp [World.frozen?,hg]
theorem vstep_0(gp cp gs cs gl cl p m:Nat)(w:World)(hM:Mc gp cp gs cs gl cl p 0 m w): Calls prog 228 #[.pointer (some ⟨m,0,none⟩)] w fun e w'=>e=.returned (.bool true)∧w'=w.setCell ⟨m,6,none⟩ (.int .i64 1):=by
 go_enter func228,ntmps228
 have mlt:=hM.lt
 have:m<w.heap.size+1:=oM
 have:m<w.heap.size+1+1:=oM
 have:m<w.heap.size+1+1+1:=oM
 have:m<w.heap.size+1+1+1+1:=oM
 have:m<w.heap.size+1+1+1+1+1:=oM
 have:m<w.heap.size+1+1+1+1+1+1:=oM
 have:m<w.heap.size+1+1+1+1+1+1+1:=oM
 have m0:=hM.c0
 have m1:=hM.c1
 have m2:=hM.c2
 have m3:=hM.c3
 have m4:=hM.c4
 have m5:=hM.c5
 have m6:=hM.c6
 have mz6:=hM.z6
 go_wp2_with fail
 go_ret
 exact ⟨rfl,rfl⟩
def DownP (w:World) (a p:Nat) (e:Ending) (w':World):Prop:=e=.returned (.tuple #[])∧∃g c W1,w'=World.setCell W1 ⟨a,4,none⟩ (.slice (some ⟨g,0,none⟩) 1 c)∧Below w.heap.size w W1∧w.heap.size≤g∧Fr p 0 .nilFunc g W1
theorem down_0(gp cp gs cs gl cl p m a:Nat)(fd:Value)(mo:Int)(w:World)(hW:Wk m (.slice none 0 0) fd mo a w)(hM:Mc gp cp gs cs gl cl p 0 m w)(hC:Cd gp gs gl w): Calls prog 283 #[.pointer (some ⟨a,0,none⟩),.int .i64 0,.agg #[.pointer (some ⟨p,0,none⟩),.int .i64 (-1)]] w fun e w'=>DownP w a p e w':=by
 obtain ⟨i0,hi0,hz0,hs0,hb0⟩ :=info_parts info382
 go_enter func283,ntmps283
 have alt:=hW.lt
 have:a<w.heap.size+1:=oM
 have:a<w.heap.size+1+1:=oM
 have:a<w.heap.size+1+1+1:=oM
 have:a<w.heap.size+1+1+1+1:=oM
 have:a<w.heap.size+1+1+1+1+1:=oM
 have:a<w.heap.size+1+1+1+1+1+1:=oM
 have:a<w.heap.size+1+1+1+1+1+1+1:=oM
 have w0:=hW.c0
 have w1:=hW.c1
 have w2:=hW.c2
 have w3:=hW.c3
 have w4:=hW.c4
 have w5:=hW.c5
 have w6:=hW.c6
 have w7:=hW.c7
 have wz4:=hW.z4
 have wz5:=hW.z5
 have wz7:=hW.z7
 have mlt:=hM.lt
 have:m<w.heap.size+1:=oM
 have:m<w.heap.size+1+1:=oM
 have:m<w.heap.size+1+1+1:=oM
 have:m<w.heap.size+1+1+1+1:=oM
 have:m<w.heap.size+1+1+1+1+1:=oM
 have:m<w.heap.size+1+1+1+1+1+1:=oM
 have:m<w.heap.size+1+1+1+1+1+1+1:=oM
 have m0:=hM.c0
 have m1:=hM.c1
 have m2:=hM.c2
 have m3:=hM.c3
 have m4:=hM.c4
 have m5:=hM.c5
 have m6:=hM.c6
 have mz6:=hM.z6
 have:gp<w.heap.size:=by have:=hC.p.lt;omega
 have:gp<w.heap.size+1:=by have:=hC.p.lt;omega
 have:gp<w.heap.size+1+1:=by have:=hC.p.lt;omega
 have:gp<w.heap.size+1+1+1:=by have:=hC.p.lt;omega
 have:gp<w.heap.size+1+1+1+1:=by have:=hC.p.lt;omega
 have:gp<w.heap.size+1+1+1+1+1:=by have:=hC.p.lt;omega
 have:gp<w.heap.size+1+1+1+1+1+1:=by have:=hC.p.lt;omega
 have:gp<w.heap.size+1+1+1+1+1+1+1:=by have:=hC.p.lt;omega
 have:gs<w.heap.size:=by have:=hC.s.lt;omega
 have:gs<w.heap.size+1:=by have:=hC.s.lt;omega
 have:gs<w.heap.size+1+1:=by have:=hC.s.lt;omega
 have:gs<w.heap.size+1+1+1:=by have:=hC.s.lt;omega
 have:gs<w.heap.size+1+1+1+1:=by have:=hC.s.lt;omega
 have:gs<w.heap.size+1+1+1+1+1:=by have:=hC.s.lt;omega
 have:gs<w.heap.size+1+1+1+1+1+1:=by have:=hC.s.lt;omega
 have:gs<w.heap.size+1+1+1+1+1+1+1:=by have:=hC.s.lt;omega
 have:gl<w.heap.size:=by have:=hC.l.lt;omega
 have:gl<w.heap.size+1:=by have:=hC.l.lt;omega
 have:gl<w.heap.size+1+1:=by have:=hC.l.lt;omega
 have:gl<w.heap.size+1+1+1:=by have:=hC.l.lt;omega
 have:gl<w.heap.size+1+1+1+1:=by have:=hC.l.lt;omega
 have:gl<w.heap.size+1+1+1+1+1:=by have:=hC.l.lt;omega
 have:gl<w.heap.size+1+1+1+1+1+1:=by have:=hC.l.lt;omega
 have:gl<w.heap.size+1+1+1+1+1+1+1:=by have:=hC.l.lt;omega
 have dp0:=hC.p.c0
 have dp1:=hC.p.c1
 have dp2:=hC.p.c2
 have ds0:=hC.s.c0
 have ds1:=hC.s.c1
 have ds2:=hC.s.c2
 have dl0:=hC.l.c0
 have dl1:=hC.l.c1
 have dl2:=hC.l.c2
 have dl3:=hC.l.c3
 have dl4:=hC.l.c4
 have dl5:=hC.l.c5
 have dl6:=hC.l.c6
 have dl7:=hC.l.c7
 go_wp2_with fail
 go_region
 go_wp2_with fail
 go_region_law ((first|((first|refine step_push rfl _ _ 297 rfl 359 i0 _ 7 56 underlying297 hi0 hz0 hs0 hb0 rfl oM (Acc.nil qR 359 7) rfl rfl (by first|rfl|simp) rfl rfl oM oM ?_|refine step_push_d rfl _ _ 297 rfl 359 i0 _ 7 56 underlying297 hi0 hz0 hs0 hb0 rfl oM (Acc.nil qR 359 7) rfl rfl (by first|rfl|simp) rfl rfl oM oM ?_|refine step_push_dd rfl _ _ 297 rfl 359 i0 _ 7 56 underlying297 hi0 hz0 hs0 hb0 rfl oM (Acc.nil qR 359 7) rfl rfl (by first|rfl|simp) rfl rfl oM oM ?_|refine step_push_d3 rfl _ _ 297 rfl 359 i0 _ 7 56 underlying297 hi0 hz0 hs0 hb0 rfl oM (Acc.nil qR 359 7) rfl rfl (by first|rfl|simp) rfl rfl oM oM ?_);intro gn cn w3 hA;have xa:=hA.bel.cl a 4;have xb:=hA.bel.fz a 4;simp [go_sem, *] at xa xb;have HA:=hid hA;have HB:=bel_step (w:=w) tq4 hA.bel;clear hA)))
 all_goals have hr:=HA.out.row
 all_goals have hr1:=hr.1
 all_goals simp at hr1
 all_goals exact bodyPost_end (v:=.tuple #[]) (by simp [results,results283,go_sem]) rfl ⟨rfl,gn,cn,w3,rfl,HB.out,by omega,⟨hr.2.1,hr.2.2 0 _ rfl,hr.2.2 1 _ rfl,hr.2.2 2 _ rfl,hr.2.2 3 _ rfl,hr.2.2 4 _ rfl,hr.2.2 5 _ rfl,hr.2.2 6 _ rfl,HA.out.frz 1,HA.out.frz 6⟩⟩
end
end Go.Proofs.YtjcioljdlfdnbaaGreatDoor
