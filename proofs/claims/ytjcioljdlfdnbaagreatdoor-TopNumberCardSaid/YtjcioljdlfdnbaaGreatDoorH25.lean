/- Part 25: lemmas for TopNumber; no conditions. -/
import Derived.Test.YtjcioljdlfdnbaaGreatDoorH21
import Derived.Test.YtjcioljdlfdnbaaGreatDoorH23
import Derived.Test.YtjcioljdlfdnbaaGreatDoorH24
set_option linter.unusedVariables false
set_option linter.unusedSimpArgs false
set_option maxRecDepth 100000
set_option maxHeartbeats 2000000
open Go.Proofs.Tryz
namespace Go.Proofs.YtjcioljdlfdnbaaGreatDoor
namespace Nn
open Go.RowKit
theorem CX.setN2{w0 W:World}{r g:Nat}{ts:List Tok}{en dp:Int}{L:List (Nat × List Value)}(h:CX w0 r g ts en dp L W){a:Addr}(h0:w0.heap.size≤a.block)(hr:a.block≠r)(h2:a.block≠g)(hL:∀q∈L,a.block≠q.1)(v:Value): CX w0 r g ts en dp L (W.setCell a v):=
 ⟨h.rt.setO hr h2 v,⟨h.qf.gr.os,h.qf.gr.tape,h.qf.gr.output,by simpa [World.setCell] using h.qf.gr.size,fun i hi hne=>(Below.heap_setCell _ _ _ _ oM).trans (h.qf.gr.block i hi hne)⟩,fun q hq=>(h.bs q hq).setO (hL q hq) v,h.ne⟩
theorem parse_x(q:ByteArray)(hqs:q.size≤4096){t0:List Tok}(A A1 A2 A3:Int)(i:Int)(la:Bool)(lk ln:Int)(ra:Bool)(rk rn:Int)(hn:t0.length≤100)(hl:LexAt q 0 (⟨1,⟨#[36]⟩,0,A3⟩ ::⟨1,⟨#[91]⟩,0,A1⟩ ::⟨1,⟨#[63]⟩,0,A⟩ ::t0))(hc:∀r g,XQ 322 r g t0 [⟨1,⟨#[93]⟩,0,A2⟩] (q.size:Nat) 1 i la lk ln ra rk rn)(w:World): Calls prog 44 #[.string q] w fun e w'=>∃Q c S X,e=.returned (.tuple #[.agg #[.bool true,.slice (some ⟨Q,0,none⟩) 1 c],.agg #[.int .i64 0,.int .i64 0]])∧1≤c∧Below w.heap.size w w'∧Bk Q [.bool false,.slice (some ⟨S,0,none⟩) 1 1] w'∧Bk S [.int .i64 4,.string ⟨#[]⟩,.int .i64 0,.int .i64 0,.int .i64 0,.int .i64 0,.bool false,.bool false,.pointer (some ⟨X,0,none⟩)] w'∧Bk X [.int .i64 4,.slice none 0 0,.bool false,.slice none 0 0,.int .i64 i,.bool la,.int .i64 lk,.int .i64 ln,.string ⟨#[]⟩,.bool false,.slice none 0 0,.bool ra,.int .i64 rk,.int .i64 rn,.string ⟨#[]⟩,.bool false,.slice none 0 0] w'∧w.heap.size≤Q∧w.heap.size≤S∧w.heap.size≤X:=by
 have hL:=fun W=>lex_t q hqs _ hl sM (by simp;omega) W
 have i1:Is ⟨1,⟨#[36]⟩,0,A3⟩ ⟨#[36]⟩ true:=by unfold Is;simp only [ByteArray.toList_eq];decide
 go_enter func44,ntmps44
 go_wp2_with fail
 refine (hL _).mono ?_;rintro e w1 ⟨g,cap,rfl,hcap,hg0,hg1,hTL,hb⟩
 have HB1:=bel_step (w:=w) tq4 hb
 have bl:w.heap.size+1<w1.heap.size:=by have:=hb.size;simp at this;omega
 have hg0':w.heap.size+1+1≤g:=by simpa using hg0
 clear hg0
 have HBR:Hid (Bk w.heap.size [.bool false,.slice none 0 0] w1∧Bk (w.heap.size+1) [.int .i64 0,.int .i64 0] w1):=by
  have b0:=(Bk.new w #[.bool false,.slice none 0 0] 118).below (qR.alloc qL (.cells #[.int .i64 0,.int .i64 0] 47))
  have b1:=Bk.new (w.alloc (.cells #[.bool false,.slice none 0 0] 118)) #[.int .i64 0,.int .i64 0] 47
  rw [show (w.alloc (.cells #[.bool false,.slice none 0 0] 118)).heap.size=w.heap.size+1 by simp] at b1
  exact hid ⟨b0.below hb,b1.below hb⟩
 have HC1:Hid (CX w (w1.heap.size+1) g (⟨1,⟨#[36]⟩,0,A3⟩ ::⟨1,⟨#[91]⟩,0,A1⟩ ::⟨1,⟨#[63]⟩,0,A⟩ ::t0) (q.size:Nat) 0 [(w1.heap.size,[.int .i64 0,.int .i64 0]),(w.heap.size+1,[.int .i64 0,.int .i64 0]),(w.heap.size,[.bool false,.slice none 0 0])] ((w1.alloc (.cells #[.int .i64 0,.int .i64 0] 47)).alloc (.cells #[.slice (some ⟨g,0,none⟩) (t0.length+1+1+1) cap,.int .i64 (q.size:Nat),.int .i64 0,.int .i64 0,.int .i64 0] 173))):=by
  have bF:=(Bk.new w1 #[.int .i64 0,.int .i64 0] 47).below (qR.alloc qL (.cells #[.slice (some ⟨g,0,none⟩) (t0.length+1+1+1) cap,.int .i64 (q.size:Nat),.int .i64 0,.int .i64 0,.int .i64 0] 173))
  have bR:=Bk.new (w1.alloc (.cells #[.int .i64 0,.int .i64 0] 47)) #[.slice (some ⟨g,0,none⟩) (t0.length+1+1+1) cap,.int .i64 (q.size:Nat),.int .i64 0,.int .i64 0,.int .i64 0] 173
  rw [show (w1.alloc (.cells #[.int .i64 0,.int .i64 0] 47)).heap.size=w1.heap.size+1 by simp] at bR
  have hB2:Below w1.heap.size w1 ((w1.alloc (.cells #[.int .i64 0,.int .i64 0] 47)).alloc (.cells #[.slice (some ⟨g,0,none⟩) (t0.length+1+1+1) cap,.int .i64 (q.size:Nat),.int .i64 0,.int .i64 0,.int .i64 0] 173)):=(qR.alloc qL _).alloc sM _
  refine hid ⟨⟨by simp,by have:=hB2.size;omega,by omega,⟨0,cap,bR.c 0 _ rfl,by simpa using hcap,hTL.of fun c=>hB2.cell (p:=⟨g,c,none⟩) hg1⟩,bR.c 1 _ rfl,bR.c 2 _ rfl,bR.c 3 _ rfl,bR.c 4 _ rfl,bR.z 0 sM,bR.z 4 sM⟩,QF.below (HB1.out.trans (hB2.mono HB1.out.size)),?_,?_⟩
  ·intro x hx
   simp only [List.mem_cons,List.not_mem_nil,or_false] at hx
   rcases hx with rfl|rfl|rfl
   ·exact bF
   ·exact HBR.out.2.below hB2
   ·exact HBR.out.1.below hB2
  ·intro x hx
   simp only [List.mem_cons,List.not_mem_nil,or_false] at hx
   rcases hx with rfl|rfl|rfl
   ·exact ⟨by simp only;omega,by simp only;omega,by simp only;omega⟩
   ·exact ⟨by simp only;omega,by simp only;omega,by simp only;omega⟩
   ·exact ⟨by simp only;omega,by simp only;omega,by simp only;omega⟩
 clear hb hTL hcap HB1 HBR hL hl
 go_wp2_with fail
 generalize ((w1.alloc _).alloc _)=W1 at HC1 ⊢
 have hr0:w.heap.size≤w1.heap.size+1:=oM
 have hrw:w.heap.size+1<w1.heap.size:=bl
 generalize w1.heap.size=F at HC1 hr0 hrw ⊢
 obtain ⟨r,hr⟩:∃r,F+1=r:=⟨_,rfl⟩
 rw [hr] at HC1 hr0 ⊢
 refine (is_t (r:=r) (g:=g) (t:=⟨1,⟨#[36]⟩,0,A3⟩) (ts:=⟨1,⟨#[91]⟩,0,A1⟩ ::⟨1,⟨#[63]⟩,0,A⟩ ::t0) (en:=(q.size:Nat)) (dp:=0) _ true i1 _ HC1.out.rt).mono ?_;rintro e w3 ⟨rfl,rfl⟩
 go_wp2_with fail
 refine (path_x A A1 A2 A3 i la lk ln ra rk rn (hc r g) _ HC1.out.rt).mono ?_;rintro e w4 ⟨Q,c,S,X,rfl,hc1,hf,hn1,hBQ,hBS,hBX,hQ,hS,hX⟩
 have lr:=HC1.out.rt.lt
 have lg:=HC1.out.rt.glt
 have l0:=(HC1.out.bs _ (.tail _ (.tail _ (.head _)))).lt
 have l1:=(HC1.out.bs _ (.tail _ (.head _))).lt
 simp only at l0 l1
 have hq:=HC1.out.qf.gr.size
 have C2:=hid ((((HC1.out.step hf hn1).ins hBX oM oM oM).ins hBS oM oM oM).ins hBQ oM oM oM)
 have nQ:w.heap.size+1<Q∧w.heap.size+1<S∧w.heap.size+1<X:=⟨by omega,by omega,by omega⟩
 clear hf hn1 hBQ hBS hBX hQ hS hX HC1 l0 l1 lr lg hq hc
 have lr:=C2.out.rt.lt
 have lr1:r<w4.heap.size+1:=oM
 have c2:=C2.out.rt.c2
 have c3:=C2.out.rt.c3
 have x0:=C2.out.cell (b:=w.heap.size) (.tail _ (.tail _ (.tail _ (.tail _ (.tail _ (.head _)))))) 0 _ rfl
 have x1:=C2.out.cell (b:=w.heap.size) (.tail _ (.tail _ (.tail _ (.tail _ (.tail _ (.head _)))))) 1 _ rfl
 have x2:=C2.out.cell (b:=w.heap.size+1) (.tail _ (.tail _ (.tail _ (.tail _ (.head _))))) 0 _ rfl
 have x3:=C2.out.cell (b:=w.heap.size+1) (.tail _ (.tail _ (.tail _ (.tail _ (.head _))))) 1 _ rfl
 have y0:=C2.out.fz (b:=w.heap.size) (.tail _ (.tail _ (.tail _ (.tail _ (.tail _ (.head _)))))) 0 sM
 have y1:=C2.out.fz (b:=w.heap.size) (.tail _ (.tail _ (.tail _ (.tail _ (.tail _ (.head _)))))) 1 sM
 have y2:=C2.out.fz (b:=w.heap.size+1) (.tail _ (.tail _ (.tail _ (.tail _ (.head _))))) 0 sM
 have y3:=C2.out.fz (b:=w.heap.size+1) (.tail _ (.tail _ (.tail _ (.tail _ (.head _))))) 1 sM
 have z0:=(C2.out.bs _ (.tail _ (.tail _ (.tail _ (.tail _ (.tail _ (.head _))))))).lt
 have z1:=(C2.out.bs _ (.tail _ (.tail _ (.tail _ (.tail _ (.head _)))))).lt
 simp only at z0 z1
 have z2:w.heap.size<w4.heap.size+1:=oM
 have z3:w.heap.size+1<w4.heap.size+1:=oM
 have nr:w.heap.size+1<r:=oM
 clear hr
 go_wp2_with (first|(go_at_call 83;refine (over_n (r:=r) (g:=g) (en:=(q.size:Nat)) (dp:=0) _ (by first|exact C2.out.rt|exact C2.out.rt.below (qR.alloc qL _))).mono ?_;rintro e w9 ⟨rfl,rfl⟩))
 obtain ⟨n1,n2,n3⟩ :=nQ
 have C3:=C2.out.sub (L':=[(Q,[.bool false,.slice (some ⟨S,0,none⟩) 1 1]),(S,[.int .i64 4,.string ⟨#[]⟩,.int .i64 0,.int .i64 0,.int .i64 0,.int .i64 0,.bool false,.bool false,.pointer (some ⟨X,0,none⟩)]),(X,[.int .i64 4,.slice none 0 0,.bool false,.slice none 0 0,.int .i64 i,.bool la,.int .i64 lk,.int .i64 ln,.string ⟨#[]⟩,.bool false,.slice none 0 0,.bool ra,.int .i64 rk,.int .i64 rn,.string ⟨#[]⟩,.bool false,.slice none 0 0])]) (by
   intro q hq
   simp only [List.mem_cons,List.not_mem_nil,or_false] at hq
   rcases hq with rfl|rfl|rfl
   ·exact .head _
   ·exact .tail _ (.head _)
   ·exact .tail _ (.tail _ (.head _)))
 have hne0:∀q∈[(Q,[Value.bool false,.slice (some ⟨S,0,none⟩) 1 1]),(S,[.int .i64 4,.string ⟨#[]⟩,.int .i64 0,.int .i64 0,.int .i64 0,.int .i64 0,.bool false,.bool false,.pointer (some ⟨X,0,none⟩)]),(X,[.int .i64 4,.slice none 0 0,.bool false,.slice none 0 0,.int .i64 i,.bool la,.int .i64 lk,.int .i64 ln,.string ⟨#[]⟩,.bool false,.slice none 0 0,.bool ra,.int .i64 rk,.int .i64 rn,.string ⟨#[]⟩,.bool false,.slice none 0 0])],w.heap.size≠q.1:=by
  intro q hq
  simp only [List.mem_cons,List.not_mem_nil,or_false] at hq
  rcases hq with rfl|rfl|rfl <;> simp <;> omega
 have hne1:∀q∈[(Q,[Value.bool false,.slice (some ⟨S,0,none⟩) 1 1]),(S,[.int .i64 4,.string ⟨#[]⟩,.int .i64 0,.int .i64 0,.int .i64 0,.int .i64 0,.bool false,.bool false,.pointer (some ⟨X,0,none⟩)]),(X,[.int .i64 4,.slice none 0 0,.bool false,.slice none 0 0,.int .i64 i,.bool la,.int .i64 lk,.int .i64 ln,.string ⟨#[]⟩,.bool false,.slice none 0 0,.bool ra,.int .i64 rk,.int .i64 rn,.string ⟨#[]⟩,.bool false,.slice none 0 0])],w.heap.size+1≠q.1:=by
  intro q hq
  simp only [List.mem_cons,List.not_mem_nil,or_false] at hq
  rcases hq with rfl|rfl|rfl <;> simp <;> omega
 have C4:=hid (((((C3.setN2 (a:=⟨w.heap.size,0,none⟩) sM (by simp;omega) (by simp;omega) hne0 (.bool true)).setN2 (a:=⟨w.heap.size,1,none⟩) sM (by simp;omega) (by simp;omega) hne0 (.slice (some ⟨Q,0,none⟩) 1 c)).setN2 (a:=⟨w.heap.size+1,0,none⟩) sM (by simp;omega) (by simp;omega) hne1 (.int .i64 0)).setN2 (a:=⟨w.heap.size+1,1,none⟩) sM (by simp;omega) (by simp;omega) hne1 (.int .i64 0)).below (qR.alloc qL (.cells #[.bool true,.slice (some ⟨Q,0,none⟩) 1 c] 118)))
 refine bodyPost_ret (v:=.tuple #[.agg #[.bool true,.slice (some ⟨Q,0,none⟩) 1 c],.agg #[.int .i64 0,.int .i64 0]]) (by simp [results,results44,go_sem,x0,x1,x2,x3,y0,y1,y2,y3,z0,z1,z2,z3]) rfl ⟨Q,c,S,X,rfl,hc1,gr_bel C4.out.qf.gr qL hr0,C4.out.bs _ (.head _),C4.out.bs _ (.tail _ (.head _)),C4.out.bs _ (.tail _ (.tail _ (.head _))),by omega,by omega,by omega⟩
end Nn
namespace Nn
open Go.RowKit
open Np
def ParsedP (w:World) (L:List Value) (e:Ending) (w':World):Prop:=∃Q c S X,e=.returned (.tuple #[.agg #[.bool true,.slice (some ⟨Q,0,none⟩) 1 c],.agg #[.int .i64 0,.int .i64 0]])∧1≤c∧Below w.heap.size w w'∧Bk Q [.bool false,.slice (some ⟨S,0,none⟩) 1 1] w'∧Bk S [.int .i64 4,.string ⟨#[]⟩,.int .i64 0,.int .i64 0,.int .i64 0,.int .i64 0,.bool false,.bool false,.pointer (some ⟨X,0,none⟩)] w'∧Bk X L w'∧w.heap.size≤Q∧w.heap.size≤S∧w.heap.size≤X
theorem op_nos(i:Nat)(op:ByteArray)(h:opsL[i]?=some op)(A:Int): Nos ⟨1,op,0,A⟩ :=by
 have:i<6:=by
  obtain ⟨h,-⟩ :=List.getElem?_eq_some_iff.1 h
  exact h
 obtain rfl|rfl|rfl|rfl|rfl|rfl:i=0∨i=1∨i=2∨i=3∨i=4∨i=5:=oM
 all_goals
  simp only [opsL,List.getElem?_cons_succ,List.getElem?_cons_zero,Option.some.injEq] at h
  subst h
  refine ⟨?_,?_,?_⟩ <;> (unfold Is;simp only [ByteArray.toList_eq];decide)
theorem is_b(x y:ByteArray)(A:Int)(b:Bool)(h:(x.data.toList==y.data.toList)=b): Is ⟨1,x,0,A⟩ y b:=by
 unfold Is;simp only [ByteArray.toList_eq];simpa using h
theorem parse_A(q:ByteArray)(hs:q.size≤4096)(i:Nat)(op:ByteArray)(hop:opsL[i]?=some op)(n:Int)(hn:n.natAbs≤9007199254740991)(hq:q.data.toList=36::91::63::64::(op.data.toList++(Lib.itoa n++[93])))(w:World): Calls prog 44 #[.string q] w fun e w'=>ParsedP w (xvL (i:Nat) false 0 0 true 2 n) e w':=by
 have hl:=lexA q hs i op hop n hn hq
 unfold tokA at hl
 refine parse_x q hs _ _ ((4+op.size+(Lib.itoa n).length:Nat):Int) _ (i:Nat) false 0 0 true 2 n sM hl (fun r g=>?_) w
 have h1:XQ 387 r g (⟨1,⟨#[64]⟩,0,3⟩ ::⟨1,op,0,((4:Nat):Int)⟩ ::⟨3,⟨#[]⟩,n,((4+op.size:Nat):Int)⟩ ::[⟨1,⟨#[93]⟩,0,((4+op.size+(Lib.itoa n).length:Nat):Int)⟩]) [⟨1,⟨#[93]⟩,0,((4+op.size+(Lib.itoa n).length:Nat):Int)⟩] (q.size:Nat) 1 (i:Nat) false 0 0 true 2 n:=
  fun w h=>cmp_a i (is_b _ _ _ _ (by decide)) (is_b _ _ _ _ (by decide)) (op_nos i op hop _) rfl hop rfl w h
 exact or_x _ _ _ _ _ _ _ (is_b _ _ _ _ (by decide)) (and_x _ _ _ _ _ _ _ (is_b _ _ _ _ (by decide)) (one_x _ _ _ _ _ _ _ (is_b _ _ _ _ (by decide)) (is_b _ _ _ _ (by decide)) h1))
theorem parse_B(q:ByteArray)(hs:q.size≤4096)(i:Nat)(op:ByteArray)(hop:opsL[i]?=some op)(n:Int)(hn:n.natAbs≤9007199254740991)(hq:q.data.toList=36::91::63::(Lib.itoa n++(op.data.toList++[64,93])))(w:World): Calls prog 44 #[.string q] w fun e w'=>ParsedP w (xvL (i:Nat) true 2 n false 0 0) e w':=by
 have hl:=lexB q hs i op hop n hn hq
 unfold tokB at hl
 refine parse_x q hs _ _ ((3+(Lib.itoa n).length+op.size+1:Nat):Int) _ (i:Nat) true 2 n false 0 0 sM hl (fun r g=>?_) w
 have h1:XQ 387 r g (⟨3,⟨#[]⟩,n,((3:Nat):Int)⟩ ::⟨1,op,0,((3+(Lib.itoa n).length:Nat):Int)⟩ ::⟨1,⟨#[64]⟩,0,((3+(Lib.itoa n).length+op.size:Nat):Int)⟩ ::[⟨1,⟨#[93]⟩,0,((3+(Lib.itoa n).length+op.size+1:Nat):Int)⟩]) [⟨1,⟨#[93]⟩,0,((3+(Lib.itoa n).length+op.size+1:Nat):Int)⟩] (q.size:Nat) 1 (i:Nat) true 2 n false 0 0:=
  fun w h=>cmp_b i (is_b _ _ _ _ (by decide)) (is_b _ _ _ _ (by decide)) ⟨is_b _ _ _ _ (by decide),is_b _ _ _ _ (by decide),is_b _ _ _ _ (by decide)⟩ rfl hop rfl w h
 have i1:Is ⟨3,⟨#[]⟩,n,((3:Nat):Int)⟩ ⟨#[33]⟩ false:=by simp [Is]
 have i2:Is ⟨3,⟨#[]⟩,n,((3:Nat):Int)⟩ ⟨#[40]⟩ false:=by simp [Is]
 exact or_x _ _ _ _ _ _ _ (is_b _ _ _ _ (by decide)) (and_x _ _ _ _ _ _ _ (is_b _ _ _ _ (by decide)) (one_x _ _ _ _ _ _ _ i1 i2 h1))
end Nn
namespace Nn
open Go.RowKit
structure Row where
 k:Nat
 e:TypeId
 size:Nat
 v:Value
 n:Nat
 xs:List Value
theorem own_obj{w:World}{b0:Nat}{e:TypeId}{size n g:Nat}{v:Value}{xs:List Value}(h:w.ownsRow b0 e size v n xs)(hg:v.ownBlock=some g): b0≤g∧∃cur,w.heap[g]?=some (.cells cur e (0,0)):=by
 rcases h.2 with ⟨hv,-⟩|⟨g',cap,cur,hv,hb,ho,-⟩
 ·subst hv;simp [Value.ownBlock] at hg
 ·subst hv;simp [Value.ownBlock] at hg;subst hg;exact ⟨hb,cur,ho⟩
theorem own_keep{w w':World}{b0:Nat}{e:TypeId}{size n:Nat}{v:Value}{xs:List Value}(h:w.ownsRow b0 e size v n xs)(hb:∀g,v.ownBlock=some g→w'.heap[g]?=w.heap[g]?): w'.ownsRow b0 e size v n xs:=by
 refine ⟨h.1,?_⟩
 rcases h.2 with h1|⟨g',cap,cur,hv,hb0,ho,hx⟩
 ·exact .inl h1
 ·exact .inr ⟨g',cap,cur,hv,hb0,(hb g' (by rw [hv];rfl)).trans ho,hx⟩
structure MK (b0 m:Nat) (t:TypeId) (A:Array Value) (R:List Row) (W:World):Prop where
 b:b0≤m
 o:W.heap[m]?=some (.cells A t (0,0))
 r:∀x∈R,W.ownsRow b0 x.e x.size x.v x.n x.xs∧x.e≠t∧A[x.k]?=some x.v
 pw:R.Pairwise fun x y=>x.e≠y.e∧x.k≠y.k
theorem MK.lt{b0 m:Nat}{t:TypeId}{A:Array Value}{R:List Row}{W:World}(h:MK b0 m t A R W): m<W.heap.size:=(Array.getElem?_eq_some_iff.1 h.o).1
theorem MK.cell{b0 m:Nat}{t:TypeId}{A:Array Value}{R:List Row}{W:World}(h:MK b0 m t A R W)(k:Nat)(v:Value)(hk:A[k]?=some v): W.cell? ⟨m,k,none⟩=some v:=by simp [World.cell?,h.o,hk]
theorem MK.fz{b0 m:Nat}{t:TypeId}{A:Array Value}{R:List Row}{W:World}(h:MK b0 m t A R W)(k:Nat): W.frozen? ⟨m,k,none⟩=false:=by simp [World.frozen?,h.o]
theorem MK.of{b0 m:Nat}{t:TypeId}{A:Array Value}{R:List Row}{W W':World}(h:MK b0 m t A R W)(hb:∀g,g<W.heap.size→b0≤g→W'.heap[g]?=W.heap[g]?): MK b0 m t A R W':=
 ⟨h.b,(hb m h.lt h.b).trans h.o,fun x hx=>⟨own_keep (h.r x hx).1 fun g hg=>by
  obtain ⟨h1,cur,h2⟩ :=own_obj (h.r x hx).1 hg
  exact hb g (Array.getElem?_eq_some_iff.1 h2).1 h1,(h.r x hx).2⟩,h.pw⟩
theorem MK.below{b0 m:Nat}{t:TypeId}{A:Array Value}{R:List Row}{W W':World}(h:MK b0 m t A R W)(hb:Below W.heap.size W W'): MK b0 m t A R W':=h.of fun g hg _=>hb.block g hg
theorem MK.keep{b0 m:Nat}{t:TypeId}{A:Array Value}{x:Row}{R:List Row}{W W':World}{o:Obj}(h:MK b0 m t A (x::R) W)(hg:(W.alloc o).grownBy W' x.v.ownBlock): W'.heap[m]?=some (.cells A t (0,0)):=by
 have hal:=(Below.refl W.heap.size W).alloc qL o
 refine (hg.block m (Nat.lt_of_lt_of_le h.lt hal.size) ?_).trans ((hal.block m h.lt).trans h.o)
 intro e
 obtain ⟨-,cur,h2⟩ :=own_obj (h.r x (.head _)).1 e.symm
 rw [h.o] at h2
 injection h2 with h2
 injection h2 with _ h2 _
 exact (h.r x (.head _)).2.1 h2.symm
theorem MK.push{b0 m:Nat}{t:TypeId}{A:Array Value}{x:Row}{R:List Row}{W W':World}{o:Obj}(h:MK b0 m t A (x::R) W)(hg:(W.alloc o).grownBy W' x.v.ownBlock){v':Value}{n':Nat}{xs':List Value}(ho:W'.ownsRow b0 x.e x.size v' n' xs'):
  MK b0 m t (A.setIfInBounds x.k v') (⟨x.k,x.e,x.size,v',n',xs'⟩ ::R) (W'.setCell ⟨m,x.k,none⟩ v'):=by
 have hal:=(Below.refl W.heap.size W).alloc qL o
 have hm:=h.keep hg
 have hr0:=h.r x (.head _)
 have hk:x.k<A.size:=(Array.getElem?_eq_some_iff.1 hr0.2.2).1
 have hset:∀g,g≠m→(W'.setCell ⟨m,x.k,none⟩ v').heap[g]?=W'.heap[g]?:=fun g hg=>Below.heap_setCell _ _ _ _ hg
 have hme:∀{e:TypeId} {s n:Nat} {v:Value} {xs:List Value} {V:World},V.ownsRow b0 e s v n xs→V.heap[m]?=some (.cells A t (0,0))→e≠t→∀g,v.ownBlock=some g→g≠m:=by
  intro e s n v xs V h1 h2 h3 g hg2 hgm
  subst hgm
  obtain ⟨-,cur,h4⟩ :=own_obj h1 hg2
  rw [h2] at h4
  injection h4 with h4
  injection h4 with _ h4 _
  exact h3 h4.symm
 have hpw:=List.pairwise_cons.1 h.pw
 refine ⟨h.b,?_,?_,?_⟩
 ·rw [setCell_eq_setRow W' m x.k A t (0,0) v' hm]
  exact setRow_heap W' m A _ t (0,0) hm
 ·intro y hy
  rcases List.mem_cons.1 hy with rfl|hy
  ·refine ⟨own_keep ho fun g hg2=>hset g (hme ho hm hr0.2.1 g hg2),hr0.2.1,?_⟩
   simp [hk]
  ·obtain ⟨hy1,hy2,hy3⟩ :=h.r y (.tail _ hy)
   obtain ⟨p1,p2⟩ :=hpw.1 y hy
   refine ⟨own_keep hy1 fun g hg2=>?_,hy2,by rw [Array.getElem?_setIfInBounds_ne p2];exact hy3⟩
   obtain ⟨-,cur,h4⟩ :=own_obj hy1 hg2
   have hgl:=(Array.getElem?_eq_some_iff.1 h4).1
   rw [hset g (hme hy1 h.o hy2 g hg2)]
   refine (hg.block g (Nat.lt_of_lt_of_le hgl hal.size) ?_).trans (hal.block g hgl)
   intro e
   obtain ⟨-,cur2,h5⟩ :=own_obj hr0.1 e.symm
   rw [h4] at h5
   injection h5 with h5
   injection h5 with _ h5 _
   exact p1 h5.symm
 ·exact List.pairwise_cons.2 ⟨fun y hy=>hpw.1 y hy,hpw.2⟩
theorem info290: (prog.info? 290).map (fun i=>(i.zero,i.size,i.bytes))=some (some (.agg #[.int .i64 0,.int .i64 0,.int .i64 0,.int .i64 0,.int .i64 0,.string ⟨#[]⟩,.int .i64 0]),7,64):=by kernel_rfl
theorem MK.done{b0 m:Nat}{t:TypeId}{A:Array Value}{x:Row}{R:List Row}{W W':World}{o:Obj}(h:MK b0 m t A (x::R) W)(hg:(W.alloc o).grownBy W' x.v.ownBlock){v':Value}{n':Nat}{xs':List Value}(ho:W'.ownsRow b0 x.e x.size v' n' xs'):
  MK b0 m t (A.setIfInBounds x.k v') (⟨x.k,x.e,x.size,v',n',xs'⟩ ::R) (W'.setCell ⟨m,x.k,none⟩ v')∧Below b0 W (W'.setCell ⟨m,x.k,none⟩ v')∧(∀k,k<W.heap.size→k≠m→x.v.ownBlock≠some k→(W'.setCell ⟨m,x.k,none⟩ v').heap[k]?=W.heap[k]?):=by
 have hal:=(Below.refl W.heap.size W).alloc qL o
 have hbW:b0≤W.heap.size:=Nat.le_trans h.b (Nat.le_of_lt h.lt)
 refine ⟨h.push hg ho,?_,fun k hk hm hv=>?_⟩
 ·exact ((((Below.refl b0 W).alloc hbW o).grown hg (by have:=hal.size;omega) (fun j hj=>((h.r x (.head _)).1.lt j hj).1))).setCell h.b v'
 ·exact (Below.heap_setCell _ _ _ _ hm).trans ((hg.block k (Nat.lt_of_lt_of_le hk hal.size) (fun e=>hv e.symm)).trans (hal.block k hk))
theorem put_x(b0 m:Nat)(A:Array Value)(v:Value)(n:Nat)(xs:List Value)(R:List Row)(a0 a1 a2 a3 a4:Int)(hn:n<900)(w:World)(h:MK b0 m 178 A (⟨3,290,7,v,n,xs⟩ ::R) w): Calls prog 157 #[.pointer (some ⟨m,0,none⟩),.agg #[.int .i64 a0,.int .i64 a1,.int .i64 a2,.int .i64 a3,.int .i64 a4,.string ⟨#[]⟩,.int .i64 0]] w fun e w'=>∃g cap,e=.returned (.int .i64 (n:Nat))∧MK b0 m 178 (A.setIfInBounds 3 (.slice (some ⟨g,0,none⟩) (n+1) cap)) (⟨3,290,7,.slice (some ⟨g,0,none⟩) (n+1) cap,n+1,xs++#[.int .i64 a0,.int .i64 a1,.int .i64 a2,.int .i64 a3,.int .i64 a4,.string ⟨#[]⟩,.int .i64 0].toList⟩ ::R) w'∧Below b0 w w'∧(∀k,k<w.heap.size→k≠m→v.ownBlock≠some k→w'.heap[k]?=w.heap[k]?):=by
 obtain ⟨i0,hi0,hz0,hs0,hb0⟩ :=info_parts info290
 have hH:=hid h
 have hb:=h.b
 have hl:=h.lt
 have hbw:b0≤w.heap.size:=oM
 clear h
 go_enter func157,ntmps157
 go_wp2_with fail
 have H1:=hid (hH.out.below (qR.alloc qL (.cells #[.int .i64 a0,.int .i64 a1,.int .i64 a2,.int .i64 a3,.int .i64 a4,.string ⟨#[]⟩,.int .i64 0] 290)))
 have HB:=hid ((Below.refl w.heap.size w).alloc qL (.cells #[.int .i64 a0,.int .i64 a1,.int .i64 a2,.int .i64 a3,.int .i64 a4,.string ⟨#[]⟩,.int .i64 0] 290))
 have q0:(w.alloc (.cells #[.int .i64 a0,.int .i64 a1,.int .i64 a2,.int .i64 a3,.int .i64 a4,.string ⟨#[]⟩,.int .i64 0] 290)).cell? ⟨w.heap.size,0,none⟩=some (.int .i64 a0):=by simp [go_sem]
 have q1:(w.alloc (.cells #[.int .i64 a0,.int .i64 a1,.int .i64 a2,.int .i64 a3,.int .i64 a4,.string ⟨#[]⟩,.int .i64 0] 290)).cell? ⟨w.heap.size,1,none⟩=some (.int .i64 a1):=by simp [go_sem]
 have q2:(w.alloc (.cells #[.int .i64 a0,.int .i64 a1,.int .i64 a2,.int .i64 a3,.int .i64 a4,.string ⟨#[]⟩,.int .i64 0] 290)).cell? ⟨w.heap.size,2,none⟩=some (.int .i64 a2):=by simp [go_sem]
 have q3:(w.alloc (.cells #[.int .i64 a0,.int .i64 a1,.int .i64 a2,.int .i64 a3,.int .i64 a4,.string ⟨#[]⟩,.int .i64 0] 290)).cell? ⟨w.heap.size,3,none⟩=some (.int .i64 a3):=by simp [go_sem]
 have q4:(w.alloc (.cells #[.int .i64 a0,.int .i64 a1,.int .i64 a2,.int .i64 a3,.int .i64 a4,.string ⟨#[]⟩,.int .i64 0] 290)).cell? ⟨w.heap.size,4,none⟩=some (.int .i64 a4):=by simp [go_sem]
 have q5:(w.alloc (.cells #[.int .i64 a0,.int .i64 a1,.int .i64 a2,.int .i64 a3,.int .i64 a4,.string ⟨#[]⟩,.int .i64 0] 290)).cell? ⟨w.heap.size,5,none⟩=some (.string ⟨#[]⟩):=by simp [go_sem]
 have q6:(w.alloc (.cells #[.int .i64 a0,.int .i64 a1,.int .i64 a2,.int .i64 a3,.int .i64 a4,.string ⟨#[]⟩,.int .i64 0] 290)).cell? ⟨w.heap.size,6,none⟩=some (.int .i64 0):=by simp [go_sem]
 have ql:w.heap.size<(w.alloc (.cells #[.int .i64 a0,.int .i64 a1,.int .i64 a2,.int .i64 a3,.int .i64 a4,.string ⟨#[]⟩,.int .i64 0] 290)).heap.size:=by simp
 generalize (w.alloc _)=W1 at H1 HB q0 q1 q2 q3 q4 q5 q6 ql ⊢
 generalize w.heap.size=B at q0 q1 q2 q3 q4 q5 q6 ql ⊢
 have hR:=H1.out.r _ (.head _)
 have cv:=H1.out.cell 3 v hR.2.2
 have zv:=H1.out.fz 3
 have hown:Hid (W1.ownsRow b0 290 7 v n xs):=hid hR.1
 have hml:=H1.out.lt
 have:m<W1.heap.size+1:=oM
 have hbb:b0≤W1.heap.size:=oM
 have HD:=hid (H1.out.below (W':=W1.drew) qR.drew)
 have hownD:Hid (W1.drew.ownsRow b0 290 7 v n xs):=hid (HD.out.r _ (.head _)).1
 clear hR
 apply wp_cut2 (fun G cap W'=>Hid (MK b0 m 178 (A.setIfInBounds 3 (.slice (some ⟨G,0,none⟩) (n+1) cap)) (⟨3,290,7,.slice (some ⟨G,0,none⟩) (n+1) cap,n+1,xs++#[.int .i64 a0,.int .i64 a1,.int .i64 a2,.int .i64 a3,.int .i64 a4,.string ⟨#[]⟩,.int .i64 0].toList⟩ ::R) W'∧Below b0 W1 W'∧(∀k,k<W1.heap.size→k≠m→v.ownBlock≠some k→W'.heap[k]?=W1.heap[k]?)))
 ·go_region_law ((first|((first|refine step_grow rfl _ _ 76 rfl 290 i0 _ 7 64 underlying76 hi0 hz0 hs0 hb0 rfl oM hown.out hbb rfl rfl rfl rfl rfl oM oM ?_|refine step_grow (w:=W1.drew) rfl _ _ 76 rfl 290 i0 _ 7 64 underlying76 hi0 hz0 hs0 hb0 rfl oM hownD.out hbb rfl rfl rfl rfl rfl oM oM ?_);intro G cap w3 ho hg;have hkp:w3.heap[m]?=some (.cells A 178 (0,0)):=(by first|exact H1.out.keep hg|exact HD.out.keep hg);have:w3.cell? ⟨m,3,none⟩=some v:=(by simp [World.cell?,hkp];exact (H1.out.r _ (.head _)).2.2);have:w3.frozen? ⟨m,3,none⟩=false:=(by simp [World.frozen?,hkp]);clear hkp)))
  all_goals exact ⟨G,cap,rfl,hid (by first|exact H1.out.done hg ho|exact ⟨(HD.out.done hg ho).1,(Below.refl b0 W1).drew.trans (HD.out.done hg ho).2.1,(HD.out.done hg ho).2.2⟩)⟩
 ·rintro G cap W2 HO
  have cv2:=HO.out.1.cell 3 (.slice (some ⟨G,0,none⟩) (n+1) cap) (HO.out.1.r _ (.head _)).2.2
  have hml2:=HO.out.1.lt
  clear cv zv hown hownD HD q0 q1 q2 q3 q4 q5 q6
  go_wp2_with fail
  go_ret
  have h1:=HO.out
  have hb2:=HB.out
  have:w.heap.size≤W1.heap.size:=hb2.size
  first
   | exact ⟨rfl,⟨G,cap,h1.1⟩,(hb2.mono hbw).trans h1.2.1,fun k hk hm hv=>(h1.2.2 k oM hm hv).trans (hb2.block k hk)⟩
   | exact ⟨G,cap,rfl,h1.1,(hb2.mono hbw).trans h1.2.1,fun k hk hm hv=>(h1.2.2 k oM hm hv).trans (hb2.block k hk)⟩
theorem info118: (prog.info? 118).map (fun i=>(i.zero,i.size,i.bytes))=some (some (.agg #[.bool false,.slice none 0 0]),2,32):=by kernel_rfl
theorem number_x(b0 m:Nat)(A:Array Value)(v:Value)(n:Nat)(xs:List Value)(R:List Row)(hn:n<900)(w:World)(h:MK b0 m 178 A (⟨4,118,2,v,n,xs⟩ ::R) w): Calls prog 219 #[.pointer (some ⟨m,0,none⟩),.agg #[.bool false,.slice none 0 0]] w fun e w'=>∃g cap,e=.returned (.int .i64 (n:Nat))∧MK b0 m 178 (A.setIfInBounds 4 (.slice (some ⟨g,0,none⟩) (n+1) cap)) (⟨4,118,2,.slice (some ⟨g,0,none⟩) (n+1) cap,n+1,xs++#[.bool false,.slice none 0 0].toList⟩ ::R) w'∧Below b0 w w'∧(∀k,k<w.heap.size→k≠m→v.ownBlock≠some k→w'.heap[k]?=w.heap[k]?):=by
 obtain ⟨i0,hi0,hz0,hs0,hb0⟩ :=info_parts info118
 have hH:=hid h
 have hb:=h.b
 have hl:=h.lt
 have hbw:b0≤w.heap.size:=oM
 clear h
 go_enter func219,ntmps219
 go_wp2_with fail
 have H1:=hid (hH.out.below (qR.alloc qL (.cells #[.bool false,.slice none 0 0] 118)))
 have HB:=hid ((Below.refl w.heap.size w).alloc qL (.cells #[.bool false,.slice none 0 0] 118))
 have q0:(w.alloc (.cells #[.bool false,.slice none 0 0] 118)).cell? ⟨w.heap.size,0,none⟩=some (.bool false):=by simp [go_sem]
 have q1:(w.alloc (.cells #[.bool false,.slice none 0 0] 118)).cell? ⟨w.heap.size,1,none⟩=some (.slice none 0 0):=by simp [go_sem]
 have ql:w.heap.size<(w.alloc (.cells #[.bool false,.slice none 0 0] 118)).heap.size:=by simp
 generalize (w.alloc _)=W1 at H1 HB q0 q1 ql ⊢
 generalize w.heap.size=B at q0 q1 ql ⊢
 have hR:=H1.out.r _ (.head _)
 have cv:=H1.out.cell 4 v hR.2.2
 have zv:=H1.out.fz 4
 have hown:Hid (W1.ownsRow b0 118 2 v n xs):=hid hR.1
 have hml:=H1.out.lt
 have:m<W1.heap.size+1:=oM
 have hbb:b0≤W1.heap.size:=oM
 have HD:=hid (H1.out.below (W':=W1.drew) qR.drew)
 have hownD:Hid (W1.drew.ownsRow b0 118 2 v n xs):=hid (HD.out.r _ (.head _)).1
 clear hR
 apply wp_cut2 (fun G cap W'=>Hid (MK b0 m 178 (A.setIfInBounds 4 (.slice (some ⟨G,0,none⟩) (n+1) cap)) (⟨4,118,2,.slice (some ⟨G,0,none⟩) (n+1) cap,n+1,xs++#[.bool false,.slice none 0 0].toList⟩ ::R) W'∧Below b0 W1 W'∧(∀k,k<W1.heap.size→k≠m→v.ownBlock≠some k→W'.heap[k]?=W1.heap[k]?)))
 ·go_region_law ((first|((first|refine step_grow rfl _ _ 176 rfl 118 i0 _ 2 32 underlying176 hi0 hz0 hs0 hb0 rfl oM hown.out hbb rfl rfl rfl rfl rfl oM oM ?_|refine step_grow (w:=W1.drew) rfl _ _ 176 rfl 118 i0 _ 2 32 underlying176 hi0 hz0 hs0 hb0 rfl oM hownD.out hbb rfl rfl rfl rfl rfl oM oM ?_);intro G cap w3 ho hg;have hkp:w3.heap[m]?=some (.cells A 178 (0,0)):=(by first|exact H1.out.keep hg|exact HD.out.keep hg);have:w3.cell? ⟨m,4,none⟩=some v:=(by simp [World.cell?,hkp];exact (H1.out.r _ (.head _)).2.2);have:w3.frozen? ⟨m,4,none⟩=false:=(by simp [World.frozen?,hkp]);clear hkp)))
  all_goals exact ⟨G,cap,rfl,hid (by first|exact H1.out.done hg ho|exact ⟨(HD.out.done hg ho).1,(Below.refl b0 W1).drew.trans (HD.out.done hg ho).2.1,(HD.out.done hg ho).2.2⟩)⟩
 ·rintro G cap W2 HO
  have cv2:=HO.out.1.cell 4 (.slice (some ⟨G,0,none⟩) (n+1) cap) (HO.out.1.r _ (.head _)).2.2
  have hml2:=HO.out.1.lt
  clear cv zv hown hownD HD q0 q1
  go_wp2_with fail
  go_ret
  have h1:=HO.out
  have hb2:=HB.out
  have:w.heap.size≤W1.heap.size:=hb2.size
  first
   | exact ⟨rfl,⟨G,cap,h1.1⟩,(hb2.mono hbw).trans h1.2.1,fun k hk hm hv=>(h1.2.2 k oM hm hv).trans (hb2.block k hk)⟩
   | exact ⟨G,cap,rfl,h1.1,(hb2.mono hbw).trans h1.2.1,fun k hk hm hv=>(h1.2.2 k oM hm hv).trans (hb2.block k hk)⟩
def trn (i:Nat):Nat:=if i=2 then 4 else if i=3 then 5 else if i=4 then 2 else if i=5 then 3 else i
theorem MK.swap{b0 m:Nat}{t:TypeId}{A:Array Value}{x y:Row}{R:List Row}{W:World}(h:MK b0 m t A (x::y::R) W): MK b0 m t A (y::x::R) W:=by
 refine ⟨h.b,h.o,fun z hz=>h.r z ?_,?_⟩
 ·simp only [List.mem_cons] at hz ⊢
  rcases hz with h|h|h
  ·exact .inr (.inl h)
  ·exact .inl h
  ·exact .inr (.inr h)
 ·have h1:=List.pairwise_cons.1 h.pw
  have h2:=List.pairwise_cons.1 h1.2
  refine List.pairwise_cons.2 ⟨fun z hz=>?_,List.pairwise_cons.2 ⟨fun z hz=>h1.1 z (.tail _ hz),h2.2⟩⟩
  rcases List.mem_cons.1 hz with rfl|hz
  ·have:=h1.1 y (.head _);exact ⟨fun e=>this.1 e.symm,fun e=>this.2 e.symm⟩
  ·exact h2.1 z hz
def CmpP (b0 m:Nat) (A:Array Value) (v4 v3:Value) (n4 n3:Nat) (xs4 xs3:List Value) (R:List Row) (sg k n:Int) (w:World) (e:Ending) (w':World):Prop:=
 e=.returned (.tuple #[])∧∃g4 c4 g3 c3,MK b0 m 178 ((A.setIfInBounds 4 (.slice (some ⟨g4,0,none⟩) (n4+1) c4)).setIfInBounds 3 (.slice (some ⟨g3,0,none⟩) (n3+1) c3)) (⟨3,290,7,.slice (some ⟨g3,0,none⟩) (n3+1) c3,n3+1,xs3++[.int .i64 1,.int .i64 (n4:Nat),.int .i64 sg,.int .i64 k,.int .i64 n,.string ⟨#[]⟩,.int .i64 0]⟩ ::⟨4,118,2,.slice (some ⟨g4,0,none⟩) (n4+1) c4,n4+1,xs4++[.bool false,.slice none 0 0]⟩ ::R) w'∧Below b0 w w'∧(∀k,k<w.heap.size→k≠m→v4.ownBlock≠some k→v3.ownBlock≠some k→w'.heap[k]?=w.heap[k]?)
structure Sm (W0:World) (L P:Nat) (W:World):Prop where
 s:W0.heap.size≤W.heap.size
 l:W.heap[L]?=W0.heap[L]?
 p:W.heap[P]?=W0.heap[P]?
theorem lit_held{W0 W:World}{L P:Nat}{k n:Int}(t1:W0.cell? ⟨L,1,none⟩=some (.int .i64 k))(t2:W0.cell? ⟨L,2,none⟩=some (.int .i64 n))(t3:W0.cell? ⟨L,3,none⟩=some (.string ⟨#[]⟩))(p0:W0.cell? ⟨P,0,none⟩=some (.bool false))(p1:W0.cell? ⟨P,1,none⟩=some (.slice none 0 0))(h:Hid (Sm W0 L P W)): W.cell? ⟨L,1,none⟩=some (.int .i64 k)∧W.cell? ⟨L,2,none⟩=some (.int .i64 n)∧W.cell? ⟨L,3,none⟩=some (.string ⟨#[]⟩)∧W.cell? ⟨P,0,none⟩=some (.bool false)∧W.cell? ⟨P,1,none⟩=some (.slice none 0 0)∧Hid (Sm W0 L P W):=
 ⟨(World.cell?_of_block h.out.l).trans t1,(World.cell?_of_block h.out.l).trans t2,(World.cell?_of_block h.out.l).trans t3,(World.cell?_of_block h.out.p).trans p0,(World.cell?_of_block h.out.p).trans p1,h⟩
theorem Sm.drew{W0 W:World}{L P:Nat}(h:Hid (Sm W0 L P W)): Hid (Sm W0 L P W.drew):=hid ⟨h.out.s,h.out.l,h.out.p⟩
theorem Sm.next{W0 W W':World}{L P m:Nat}{v:Value}(h:Hid (Sm W0 L P W))(hl:L<W0.heap.size)(hp:P<W0.heap.size)(lm:L≠m)(pm:P≠m)(lv:v.ownBlock≠some L)(pv:v.ownBlock≠some P)(hs:W.heap.size≤W'.heap.size)(hf:∀k,k<W.heap.size→k≠m→v.ownBlock≠some k→W'.heap[k]?=W.heap[k]?): Hid (Sm W0 L P W'):=
 hid ⟨Nat.le_trans h.out.s hs,(hf L (Nat.lt_of_lt_of_le hl h.out.s) lm lv).trans h.out.l,(hf P (Nat.lt_of_lt_of_le hp h.out.s) pm pv).trans h.out.p⟩
theorem ccmp_a(b0 m:Nat)(A:Array Value)(v4 v3:Value)(n4 n3:Nat)(xs4 xs3:List Value)(R:List Row)(i n:Int)(h4:n4<900)(h3:n3<900)(w:World)(h:MK b0 m 178 A (⟨4,118,2,v4,n4,xs4⟩ ::⟨3,290,7,v3,n3,xs3⟩ ::R) w): Calls prog 220 #[.pointer (some ⟨m,0,none⟩),.agg #[.int .i64 4,.slice none 0 0,.bool false,.slice none 0 0,.int .i64 i,.bool false,.int .i64 0,.int .i64 0,.string ⟨#[]⟩,.bool false,.slice none 0 0,.bool true,.int .i64 2,.int .i64 n,.string ⟨#[]⟩,.bool false,.slice none 0 0]] w fun e w'=>CmpP b0 m A v4 v3 n4 n3 xs4 xs3 R i 2 n w e w':=by
 have hH:=hid h
 have hb:=h.b
 have hl:=h.lt
 have hbw:b0≤w.heap.size:=oM
 clear h
 go_enter func220,ntmps220
 go_wp2_with fail
 go_region
 all_goals go_wp2_with fail
 all_goals first
  | (
    generalize hW:World.drew _=W0
    have hB:Hid (Below w.heap.size w W0):=hid (by rw [←hW];(repeat' (first|refine Below.setCell ?_ tq3 _|refine Below.alloc ?_ tq3 _|refine below_drewN' ?_ _|refine Below.drew ?_|exact Hid.out aM|exact qR)))
    have t1:W0.cell? ⟨w.heap.size+1+1,1,none⟩=some (.int .i64 2):=by rw [←hW];simp [go_sem]
    have t2:W0.cell? ⟨w.heap.size+1+1,2,none⟩=some (.int .i64 n):=by rw [←hW];simp [go_sem]
    have t3:W0.cell? ⟨w.heap.size+1+1,3,none⟩=some (.string ⟨#[]⟩):=by rw [←hW];simp [go_sem]
    have p0:W0.cell? ⟨w.heap.size+1,0,none⟩=some (.bool false):=by rw [←hW];simp [go_sem]
    have p1:W0.cell? ⟨w.heap.size+1,1,none⟩=some (.slice none 0 0):=by rw [←hW];simp [go_sem]
    have Ll:w.heap.size+1+1<W0.heap.size:=by rw [←hW];simp <;> omega
    have Pl:w.heap.size+1<W0.heap.size:=by rw [←hW];simp <;> omega
    have hLw:w.heap.size≤w.heap.size+1+1:=oM
    have hPw:w.heap.size≤w.heap.size+1:=oM
    clear hW
    generalize e2:w.heap.size+1+1=b2 at t1 t2 t3 p0 p1 Ll Pl hLw hPw ⊢
    generalize e1:w.heap.size+1=b1 at t1 t2 t3 p0 p1 Ll Pl hLw hPw ⊢
    clear e1 e2
    have H1:=hid (hH.out.below hB.out)
    obtain ⟨L,hLe⟩:∃L,L=b2:=⟨_,rfl⟩
    obtain ⟨P,hPe⟩:∃P,P=b1:=⟨_,rfl⟩
    rw [←hLe] at t1 t2 t3 Ll hLw ⊢
    rw [←hPe] at p0 p1 Pl hPw ⊢
    clear hLe hPe)
  | (
    generalize hW:World.drew _=W0
    have hB:Hid (Below w.heap.size w W0):=hid (by rw [←hW];(repeat' (first|refine Below.setCell ?_ tq3 _|refine Below.alloc ?_ tq3 _|refine below_drewN' ?_ _|refine Below.drew ?_|exact Hid.out aM|exact qR)))
    have t1:W0.cell? ⟨w.heap.size+1,1,none⟩=some (.int .i64 2):=by rw [←hW];simp [go_sem]
    have t2:W0.cell? ⟨w.heap.size+1,2,none⟩=some (.int .i64 n):=by rw [←hW];simp [go_sem]
    have t3:W0.cell? ⟨w.heap.size+1,3,none⟩=some (.string ⟨#[]⟩):=by rw [←hW];simp [go_sem]
    have p0:W0.cell? ⟨w.heap.size+1+1,0,none⟩=some (.bool false):=by rw [←hW];simp [go_sem]
    have p1:W0.cell? ⟨w.heap.size+1+1,1,none⟩=some (.slice none 0 0):=by rw [←hW];simp [go_sem]
    have Ll:w.heap.size+1<W0.heap.size:=by rw [←hW];simp <;> omega
    have Pl:w.heap.size+1+1<W0.heap.size:=by rw [←hW];simp <;> omega
    have hLw:w.heap.size≤w.heap.size+1:=oM
    have hPw:w.heap.size≤w.heap.size+1+1:=oM
    clear hW
    generalize e2:w.heap.size+1+1=b2 at t1 t2 t3 p0 p1 Ll Pl hLw hPw ⊢
    generalize e1:w.heap.size+1=b1 at t1 t2 t3 p0 p1 Ll Pl hLw hPw ⊢
    clear e1 e2
    have H1:=hid (hH.out.below hB.out)
    obtain ⟨L,hLe⟩:∃L,L=b1:=⟨_,rfl⟩
    obtain ⟨P,hPe⟩:∃P,P=b2:=⟨_,rfl⟩
    rw [←hLe] at t1 t2 t3 Ll hLw ⊢
    rw [←hPe] at p0 p1 Pl hPw ⊢
    clear hLe hPe)
 all_goals
  have HS0:Hid (Sm W0 L P W0):=hid ⟨qL,rfl,rfl⟩
  have own4:∀k,w.heap.size≤k→v4.ownBlock≠some k:=fun k hk e=>by have:=((hH.out.r _ (.head _)).1.lt k e).2;omega
  have own3:∀k,w.heap.size≤k→v3.ownBlock≠some k:=fun k hk e=>by have:=((hH.out.r _ (.tail _ (.head _))).1.lt k e).2;omega
  have l4:=own4 L hLw
  have p4:=own4 P hPw
  have l3:=own3 L hLw
  have p3:=own3 P hPw
  have lm:L≠m:=oM
  have pm:P≠m:=oM
  go_region_held3 (fun w'=>(w').cell? ⟨L,1,none⟩=some (.int .i64 2)∧(w').cell? ⟨L,2,none⟩=some (.int .i64 n)∧(w').cell? ⟨L,3,none⟩=some (.string ⟨#[]⟩)∧(w').cell? ⟨P,0,none⟩=some (.bool false)∧(w').cell? ⟨P,1,none⟩=some (.slice none 0 0)∧Hid (Sm W0 L P w')) (first|exact lit_held t1 t2 t3 p0 p1 (by first|assumption|exact Sm.drew aM)) (first|(go_at_call 219;refine (number_x b0 m A v4 n4 xs4 (⟨3,290,7,v3,n3,xs3⟩ ::R) h4 _ (by first|exact H1.out|exact H1.out.below qR.drew)).mono ?_;rintro e w9 ⟨g4,c4,rfl,hm9,hb9,hf9⟩;have HN:=hid hm9;have HF9:=hid (And.intro hb9 hf9);have HS9:Hid (Sm W0 L P w9):=Sm.next HS0 Ll Pl lm pm l4 p4 hb9.size hf9;clear hm9 hb9 hf9)|(go_at_call 157;refine (put_x b0 m _ v3 n3 xs3 (⟨4,118,2,.slice (some ⟨g4,0,none⟩) (n4+1) c4,n4+1,xs4++[.bool false,.slice none 0 0]⟩ ::R) 1 (n4:Nat) i 2 n h3 _ (by first|exact HN.out.swap|exact (HN.out.below qR.drew).swap)).mono ?_;rintro e w8 ⟨g3,c3,rfl,hm8,hb8,hf8⟩;have HM:=hid hm8;have HF8:=hid (And.intro hb8 hf8);have:Hid (Sm W0 L P w8):=Sm.next HS9 Ll Pl lm pm l3 p3 hb8.size hf8;clear hm8 hb8 hf8))
  all_goals
   have bA:Below b0 W0 w9:=by first|exact HF9.out.1|exact (Below.refl b0 W0).drew.trans HF9.out.1
   have bB:Below b0 w9 w8:=by first|exact HF8.out.1|exact (Below.refl b0 w9).drew.trans HF8.out.1
   have s0:=hB.out.size
   have s9:=bA.size
   refine bodyPost_end (v:=.tuple #[]) (by simp [results,results220,go_sem]) rfl ⟨rfl,g4,c4,g3,c3,HM.out,((hB.out.mono hbw).trans bA).trans bB,fun k hk hm h1 h2=>?_⟩
   exact (HF8.out.2 k (show k<w9.heap.size by omega) hm h2).trans ((HF9.out.2 k (show k<W0.heap.size by omega) hm h1).trans (hB.out.block k hk))
theorem kinfo280: (prog.info? 280).map (fun i=>(i.zero,i.size,i.bytes))=some (some (.agg #[.int .i64 0,.string ⟨#[]⟩,.int .i64 0,.int .i64 0,.int .i64 0,.bool false,.bool false,.int .i64 0]),8,64):=by kernel_rfl
theorem kinfo275: (prog.info? 275).map (fun i=>(i.zero,i.size,i.bytes))=some (some (.agg #[.bool false,.int .i64 0,.int .i64 0]),3,24):=by kernel_rfl
theorem kinfo272: (prog.info? 272).map (fun i=>(i.zero,i.size,i.bytes))=some (some (.agg #[.bool false,.int .i64 0,.int .i64 0]),3,24):=by kernel_rfl
theorem kinfo276: (prog.info? 276).map (fun i=>(i.zero,i.size,i.bytes))=some (some (.pointer none),1,8):=by kernel_rfl
theorem csel_f(X:Nat)(w:World): Calls prog 155 #[.agg #[.int .i64 4,.string ⟨#[]⟩,.int .i64 0,.int .i64 0,.int .i64 0,.int .i64 0,.bool false,.bool false,.pointer (some ⟨X,0,none⟩)]] w fun e w'=>e=.returned (.agg #[.int .i64 4,.string ⟨#[]⟩,.int .i64 0,.int .i64 0,.int .i64 0,.bool false,.bool false,.int .i64 0])∧Below w.heap.size w w':=by
 go_enter func155,ntmps155
 go_wp2_with fail
 try simp only [Exit.inBlock,Exit.then]
 refine bodyPost_ret (v:=.agg #[.int .i64 4,.string ⟨#[]⟩,.int .i64 0,.int .i64 0,.int .i64 0,.bool false,.bool false,.int .i64 0]) (by simp [results,results155,go_sem]) rfl ⟨rfl,tq4⟩
structure Rw (b0 g:Nat) (e:TypeId) (size n cap:Nat) (xs:List Value) (W:World):Prop where
 own:W.ownsRow b0 e size (.slice (some ⟨g,0,none⟩) n cap) n xs
theorem Rw.lt{b0 g:Nat}{e:TypeId}{size n cap:Nat}{xs:List Value}{W:World}(h:Rw b0 g e size n cap xs W): g<W.heap.size:=by
 obtain ⟨-,cur,h2⟩ :=own_obj h.own rfl
 exact (Array.getElem?_eq_some_iff.1 h2).1
theorem Rw.below{b0 g:Nat}{e:TypeId}{size n cap:Nat}{xs:List Value}{W W':World}(h:Rw b0 g e size n cap xs W)(hb:Below W.heap.size W W'): Rw b0 g e size n cap xs W':=
 ⟨own_keep h.own fun k hk=>by injection hk with hk;subst hk;exact hb.block _ h.lt⟩
theorem Rw.set{b0 g:Nat}{e:TypeId}{size n cap:Nat}{xs:List Value}{W:World}(h:Rw b0 g e size n cap xs W){a:Addr}(hne:a.block≠g)(v:Value): Rw b0 g e size n cap xs (W.setCell a v):=
 ⟨own_keep h.own fun k hk=>by injection hk with hk;subst hk;exact Below.heap_setCell _ _ _ _ (fun e=>hne e.symm)⟩
theorem Rw.mono{b0 b1 g:Nat}{e:TypeId}{size n cap:Nat}{xs:List Value}{W:World}(h:Rw b0 g e size n cap xs W)(hb:b1≤b0): Rw b1 g e size n cap xs W:=by
 refine ⟨h.own.1,?_⟩
 rcases h.own.2 with h1|⟨g',cap,cur,hv,hb0,ho,hx⟩
 ·exact .inl h1
 ·exact .inr ⟨g',cap,cur,hv,Nat.le_trans hb hb0,ho,hx⟩
structure CP (w:World) (m wa X:Nat) (v0 v1 v2:Value) (gt xt:Int) (W:World):Prop where
 gr:w.grownBy W (some m)
 ml:m<w.heap.size
 wl:w.heap.size+5≤W.heap.size
 mo:W.heap[m]?=some (.cells #[v0,v1,v2,.slice none 0 0,.slice (some ⟨wa,0,none⟩) 1 1] 178 (0,0))
 x:Bk (w.heap.size+1) [.bool true,.int .i64 0,.int .i64 xt] W
 g:Bk (w.heap.size+3) [.bool false,.int .i64 0,.int .i64 gt] W
 y:Bk (w.heap.size+4) [.int .i64 4,.string ⟨#[]⟩,.int .i64 0,.int .i64 0,.int .i64 0,.int .i64 0,.bool false,.bool false,.pointer (some ⟨X,0,none⟩)] W
theorem CP.cell{w W:World}{m wa X:Nat}{v0 v1 v2:Value}{gt xt:Int}(h:CP w m wa X v0 v1 v2 gt xt W)(k:Nat)(v:Value)(hk:(#[v0,v1,v2,.slice none 0 0,.slice (some ⟨wa,0,none⟩) 1 1]:Array Value)[k]?=some v): W.cell? ⟨m,k,none⟩=some v:=by simp [World.cell?,h.mo,hk]
theorem CP.fz{w W:World}{m wa X:Nat}{v0 v1 v2:Value}{gt xt:Int}(h:CP w m wa X v0 v1 v2 gt xt W)(k:Nat): W.frozen? ⟨m,k,none⟩=false:=by simp [World.frozen?,h.mo]
theorem CP.below{W':World}{w W:World}{m wa X:Nat}{v0 v1 v2:Value}{gt xt:Int}(h:CP w m wa X v0 v1 v2 gt xt W)(hb:Below W.heap.size W W'): CP w m wa X v0 v1 v2 gt xt W':=by
 have a:=h.ml;have b:=h.wl
 exact ⟨⟨hb.os.trans h.gr.os,hb.tape.trans h.gr.tape,hb.output.trans h.gr.output,Nat.le_trans h.gr.size hb.size,fun k hk hn=>(hb.block k (Nat.lt_of_lt_of_le hk h.gr.size)).trans (h.gr.block k hk hn)⟩,h.ml,Nat.le_trans h.wl hb.size,(hb.block m oM).trans h.mo,h.x.below hb,h.g.below hb,h.y.below hb⟩
theorem CP.setM2{w W:World}{m wa X:Nat}{v0 v1 v2:Value}{gt xt:Int}(h:CP w m wa X v0 v1 v2 gt xt W)(v:Value): CP w m wa X v0 v1 v gt xt (W.setCell ⟨m,2,none⟩ v):=by
 have a:=h.ml;have b:=h.wl
 refine ⟨⟨h.gr.os,h.gr.tape,h.gr.output,by simpa [World.setCell] using h.gr.size,fun k hk hn=>(Below.heap_setCell _ _ _ _ (by show k≠m;exact fun e=>hn (by rw [e]))).trans (h.gr.block k hk hn)⟩,h.ml,by simpa [World.setCell] using h.wl,?_,h.x.setO (by show m≠_;omega) _,h.g.setO (by show m≠_;omega) _,h.y.setO (by show m≠_;omega) _⟩
 rw [setCell_eq_setRow W m 2 _ 178 (0,0) v h.mo]
 exact setRow_heap W m _ _ 178 (0,0) h.mo
theorem CP.setM1{w W:World}{m wa X:Nat}{v0 v1 v2:Value}{gt xt:Int}(h:CP w m wa X v0 v1 v2 gt xt W)(v:Value): CP w m wa X v0 v v2 gt xt (W.setCell ⟨m,1,none⟩ v):=by
 have a:=h.ml;have b:=h.wl
 refine ⟨⟨h.gr.os,h.gr.tape,h.gr.output,by simpa [World.setCell] using h.gr.size,fun k hk hn=>(Below.heap_setCell _ _ _ _ (by show k≠m;exact fun e=>hn (by rw [e]))).trans (h.gr.block k hk hn)⟩,h.ml,by simpa [World.setCell] using h.wl,?_,h.x.setO (by show m≠_;omega) _,h.g.setO (by show m≠_;omega) _,h.y.setO (by show m≠_;omega) _⟩
 rw [setCell_eq_setRow W m 1 _ 178 (0,0) v h.mo]
 exact setRow_heap W m _ _ 178 (0,0) h.mo
theorem CP.setM0{w W:World}{m wa X:Nat}{v0 v1 v2:Value}{gt xt:Int}(h:CP w m wa X v0 v1 v2 gt xt W)(v:Value): CP w m wa X v v1 v2 gt xt (W.setCell ⟨m,0,none⟩ v):=by
 have a:=h.ml;have b:=h.wl
 refine ⟨⟨h.gr.os,h.gr.tape,h.gr.output,by simpa [World.setCell] using h.gr.size,fun k hk hn=>(Below.heap_setCell _ _ _ _ (by show k≠m;exact fun e=>hn (by rw [e]))).trans (h.gr.block k hk hn)⟩,h.ml,by simpa [World.setCell] using h.wl,?_,h.x.setO (by show m≠_;omega) _,h.g.setO (by show m≠_;omega) _,h.y.setO (by show m≠_;omega) _⟩
 rw [setCell_eq_setRow W m 0 _ 178 (0,0) v h.mo]
 exact setRow_heap W m _ _ 178 (0,0) h.mo
theorem CP.setG{w W:World}{m wa X:Nat}{v0 v1 v2:Value}{gt xt:Int}(h:CP w m wa X v0 v1 v2 gt xt W)(v:Int): CP w m wa X v0 v1 v2 v xt (W.setCell ⟨w.heap.size+3,2,none⟩ (.int .i64 v)):=by
 have a:=h.ml;have b:=h.wl
 exact ⟨⟨h.gr.os,h.gr.tape,h.gr.output,by simpa [World.setCell] using h.gr.size,fun k hk hn=>(Below.heap_setCell _ _ _ _ (by show k≠w.heap.size+3;omega)).trans (h.gr.block k hk hn)⟩,h.ml,by simpa [World.setCell] using h.wl,(Below.heap_setCell _ _ _ _ (by show m≠w.heap.size+3;omega)).trans h.mo,h.x.setO (by show w.heap.size+3≠_;omega) _,h.g.setS 2 sM _,h.y.setO (by show w.heap.size+3≠_;omega) _⟩
theorem CP.setX{w W:World}{m wa X:Nat}{v0 v1 v2:Value}{gt xt:Int}(h:CP w m wa X v0 v1 v2 gt xt W)(v:Int): CP w m wa X v0 v1 v2 gt v (W.setCell ⟨w.heap.size+1,2,none⟩ (.int .i64 v)):=by
 have a:=h.ml;have b:=h.wl
 exact ⟨⟨h.gr.os,h.gr.tape,h.gr.output,by simpa [World.setCell] using h.gr.size,fun k hk hn=>(Below.heap_setCell _ _ _ _ (by show k≠w.heap.size+1;omega)).trans (h.gr.block k hk hn)⟩,h.ml,by simpa [World.setCell] using h.wl,(Below.heap_setCell _ _ _ _ (by show m≠w.heap.size+1;omega)).trans h.mo,h.x.setS 2 sM _,h.g.setO (by show w.heap.size+1≠_;omega) _,h.y.setO (by show w.heap.size+1≠_;omega) _⟩
theorem mod_same{α:Type}(xs:Array α)(i:Nat)(f:α→α)(h:∀o,xs[i]?=some o→f o=o): xs.modify i f=xs:=by
 apply Array.ext_getElem?
 intro k
 rw [Array.getElem?_modify]
 split
 ·rename_i e
  subst e
  cases ho:xs[i]? with
  | none=>rfl
  | some o=>simp [h o ho]
 ·rfl
theorem set_same{W:World}{a:Addr}{v:Value}(h:W.cell? a=some v)(hs:a.spot=none): W.setCell a v=W:=by
 unfold World.setCell
 rw [mod_same]
 intro o ho
 cases o with
 | cells c t f=>
  simp [World.cell?,ho,hs] at h
  simp only [hs,Option.isSome_none,Bool.false_eq_true,if_false]
  congr 1
  apply Array.ext_getElem?
  intro j
  rw [Array.getElem?_setIfInBounds]
  split
  ·rename_i e;subst e
   obtain ⟨h1,h2⟩ :=Array.getElem?_eq_some_iff.1 h
   simp [h1,h2]
  ·rfl
 | _=>rfl
def ExprQ (i:Int) (la:Bool) (lk ln:Int) (ra:Bool) (rk rn sg n:Int):Prop:=∀(b0 m:Nat) (A:Array Value) (v4 v3:Value) (n4 n3:Nat) (xs4 xs3:List Value) (R:List Row),n4<900→n3<900→∀W:World,MK b0 m 178 A (⟨4,118,2,v4,n4,xs4⟩ ::⟨3,290,7,v3,n3,xs3⟩ ::R) W→Calls prog 156 #[.pointer (some ⟨m,0,none⟩),.agg ⟨xvL i la lk ln ra rk rn⟩] W fun e w'=>CmpP b0 m A v4 v3 n4 n3 xs4 xs3 R sg 2 n W e w'
theorem MK.bk{b0 m:Nat}{t:TypeId}{A:Array Value}{R:List Row}{W:World}(h:MK b0 m t A R W){k:Nat}{e:TypeId}{size g n cap:Nat}{xs:List Value}(hx:⟨k,e,size,.slice (some ⟨g,0,none⟩) n cap,n,xs⟩ ∈R): Bk g xs W∧n≤cap∧b0≤g:=by
 have h0:W.ownsRow b0 e size (.slice (some ⟨g,0,none⟩) n cap) n xs:=(h.r _ hx).1
 rcases h0.2 with ⟨hv,-⟩|⟨g',cap',cur,hv,hb,ho,hc,hc2,hs,hx2⟩
 ·exact absurd hv sM
 ·injection hv with hv _ hc3
  injection hv with hv
  injection hv with hv _ _
  subst hv
  subst hc3
  refine ⟨⟨(Array.getElem?_eq_some_iff.1 ho).1,fun i v hi=>?_,fun i hi=>by simp [World.frozen?,ho]⟩,hc,hb⟩
  change xs[i]?=some v at hi
  rw [←hx2,List.getElem?_take] at hi
  split at hi
  ·simp [World.cell?,ho]
   simpa using hi
  ·simp at hi
structure Cdf (gp gs gl gi:Nat) (sg n:Int) (w:World):Prop where
 p:Bk gp [.bool true,.int .i64 0,.int .i64 1,.bool false,.int .i64 1,.int .i64 1] w
 s:Bk gs [.bool false,.int .i64 0,.int .i64 1] w
 l:Bk gl [.int .i64 4,.string ⟨#[]⟩,.int .i64 0,.int .i64 0,.int .i64 0,.bool false,.bool false,.int .i64 0] w
 i:Bk gi [.int .i64 1,.int .i64 1,.int .i64 sg,.int .i64 2,.int .i64 n,.string ⟨#[]⟩,.int .i64 0,.int .i64 5,.int .i64 0,.int .i64 0,.int .i64 0,.int .i64 0,.string ⟨#[]⟩,.int .i64 0] w
theorem Cdf.below{gp gs gl gi:Nat}{sg n:Int}{w w':World}(h:Cdf gp gs gl gi sg n w)(hb:Below w.heap.size w w'): Cdf gp gs gl gi sg n w':=⟨h.p.below hb,h.s.below hb,h.l.below hb,h.i.below hb⟩
theorem Cdf.setO{gp gs gl gi:Nat}{sg n:Int}{w:World}(h:Cdf gp gs gl gi sg n w){a:Addr}(h1:a.block≠gp)(h2:a.block≠gs)(h3:a.block≠gl)(h4:a.block≠gi)(v:Value): Cdf gp gs gl gi sg n (w.setCell a v):=⟨h.p.setO h1 v,h.s.setO h2 v,h.l.setO h3 v,h.i.setO h4 v⟩
def MakeF (sg n:Int) (w:World) (e:Ending) (w':World):Prop:=∃gp cp gs cs gl cl gi ci,e=.returned (.agg #[.slice (some ⟨gp,0,none⟩) 2 cp,.slice (some ⟨gs,0,none⟩) 1 cs,.slice (some ⟨gl,0,none⟩) 1 cl,.slice (some ⟨gi,0,none⟩) 2 ci])∧Cdf gp gs gl gi sg n w'∧(w.heap.size≤gp∧w.heap.size≤gs∧w.heap.size≤gl∧w.heap.size≤gi)∧(2≤cp∧1≤cs∧1≤cl∧2≤ci)∧Below w.heap.size w w'
def QueryF (sg n:Int) (w:World) (e:Ending) (w':World):Prop:=∃gp cp gs cs gl cl gi ci,e=.returned (.tuple #[.agg #[.slice (some ⟨gp,0,none⟩) 2 cp,.slice (some ⟨gs,0,none⟩) 1 cs,.slice (some ⟨gl,0,none⟩) 1 cl,.slice (some ⟨gi,0,none⟩) 2 ci],.agg #[.int .i64 0,.int .i64 0]])∧Cdf gp gs gl gi sg n w'∧(2≤cp∧1≤cs∧1≤cl∧2≤ci)∧Below w.heap.size w w'
end Nn
end Go.Proofs.YtjcioljdlfdnbaaGreatDoor
