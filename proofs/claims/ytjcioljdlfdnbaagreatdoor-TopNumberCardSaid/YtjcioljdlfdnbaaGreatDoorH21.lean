/- Part 21: lemmas for TopNumber; no conditions. -/
import Derived.Test.YtjcioljdlfdnbaaGreatDoorH20
set_option linter.unusedVariables false
set_option linter.unusedSimpArgs false
set_option maxRecDepth 100000
set_option maxHeartbeats 2000000
open Go.Proofs.Tryz
namespace Go.Proofs.YtjcioljdlfdnbaaGreatDoor
namespace Nn
open Go.RowKit
def PathQ (w:World) (r g:Nat) (en:Int) (i:Int) (la:Bool) (lk ln:Int) (ra:Bool) (rk rn:Int) (q S X:Nat) (w':World):Prop:=QF r w w'∧Rt w' r g [] en 0∧Bk q [.bool false,.slice (some ⟨S,0,none⟩) 1 1] w'∧Bk S [.int .i64 4,.string ⟨#[]⟩,.int .i64 0,.int .i64 0,.int .i64 0,.int .i64 0,.bool false,.bool false,.pointer (some ⟨X,0,none⟩)] w'∧Bk X [.int .i64 4,.slice none 0 0,.bool false,.slice none 0 0,.int .i64 i,.bool la,.int .i64 lk,.int .i64 ln,.string ⟨#[]⟩,.bool false,.slice none 0 0,.bool ra,.int .i64 rk,.int .i64 rn,.string ⟨#[]⟩,.bool false,.slice none 0 0] w'∧w.heap.size≤q∧w.heap.size≤S∧w.heap.size≤X
theorem info269: (prog.info? 269).map (fun i=>(i.zero,i.size,i.bytes))=some (some (.agg #[.bool false,.slice none 0 0]),2,32):=by kernel_rfl
theorem path_x{r g:Nat}{en:Int}{t0:List Tok}(A A1 A2 A3:Int)(i:Int)(la:Bool)(lk ln:Int)(ra:Bool)(rk rn:Int)(hc:XQ 322 r g t0 [⟨1,⟨#[93]⟩,0,A2⟩] en 1 i la lk ln ra rk rn)(w:World)(h:Rt w r g (⟨1,⟨#[36]⟩,0,A3⟩ ::⟨1,⟨#[91]⟩,0,A1⟩ ::⟨1,⟨#[63]⟩,0,A⟩ ::t0) en 0): Calls prog 82 #[.pointer (some ⟨r,0,none⟩)] w fun e w'=>∃q c S X,e=.returned (.agg #[.bool true,.slice (some ⟨q,0,none⟩) 1 c])∧1≤c∧PathQ w r g en i la lk ln ra rk rn q S X w':=by
 have lt:=h.lt
 have glt:=h.glt
 obtain ⟨i0,hi0,hz0,hs0,hb0⟩ :=info_parts info269
 have i1:Is ⟨1,⟨#[36]⟩,0,A3⟩ ⟨#[36]⟩ true:=by unfold Is;simp only [ByteArray.toList_eq];decide
 have i2:Is ⟨1,⟨#[91]⟩,0,A1⟩ ⟨#[91]⟩ true:=by unfold Is;simp only [ByteArray.toList_eq];decide
 have hI:=fun W h=>is_t (r:=r) (g:=g) (t:=⟨1,⟨#[36]⟩,0,A3⟩) (ts:=⟨1,⟨#[91]⟩,0,A1⟩ ::⟨1,⟨#[63]⟩,0,A⟩ ::t0) (en:=en) (dp:=0) _ true i1 W h
 have hN:=fun W h=>next_t (r:=r) (g:=g) (t:=⟨1,⟨#[36]⟩,0,A3⟩) (ts:=⟨1,⟨#[91]⟩,0,A1⟩ ::⟨1,⟨#[63]⟩,0,A⟩ ::t0) (en:=en) (dp:=0) W h
 have hJ:=fun W h=>is_t (r:=r) (g:=g) (t:=⟨1,⟨#[91]⟩,0,A1⟩) (ts:=⟨1,⟨#[63]⟩,0,A⟩ ::t0) (en:=en) (dp:=0) _ true i2 W h
 have hS:=fun W h=>seg_x (r:=r) (g:=g) (en:=en) (t0:=t0) (ts:=[]) A A1 A2 i la lk ln ra rk rn hc W h
 have C0:=hid ((CX.start h).add #[.bool false,.slice none 0 0] 118)
 clear h hc
 go_enter func82,ntmps82
 go_wp2_with fail
 refine (hI _ C0.out.rt).mono ?_;rintro e w1 ⟨rfl,rfl⟩
 have C1:=hid (C0.out.add #[.bool true,.slice none 0 0] 118)
 simp at C1
 clear C0 hI
 go_wp2_with fail
 generalize ((w.alloc _).alloc _)=W1 at C1 ⊢
 refine (hN _ C1.out.rt).mono ?_;rintro e w2 ⟨rfl,hf,hn1⟩
 have C2:=hid (C1.out.step hf hn1)
 clear C1 hf hn1 hN
 go_wp2_with (first|(refine wp_loop_unr 3 ?_;refine Unr.step ?_;intro U hU)|(refine Unr.step ?_;intro U hU)|(go_at_call 80;refine (hJ _ C2.out.rt).mono ?_;rintro e w9 ⟨rfl,rfl⟩))
 have hsg:∀(W:World) (hW:Below w2.heap.size w2 W),Calls prog 154 #[.pointer (some ⟨r,0,none⟩)] W fun e w'=>∃S X,e=.returned (.agg #[.bool false,.slice (some ⟨S,0,none⟩) 1 1])∧Hid (CX w r g [] en 0 [(S,[.int .i64 4,.string ⟨#[]⟩,.int .i64 0,.int .i64 0,.int .i64 0,.int .i64 0,.bool false,.bool false,.pointer (some ⟨X,0,none⟩)]),(X,[.int .i64 4,.slice none 0 0,.bool false,.slice none 0 0,.int .i64 i,.bool la,.int .i64 lk,.int .i64 ln,.string ⟨#[]⟩,.bool false,.slice none 0 0,.bool ra,.int .i64 rk,.int .i64 rn,.string ⟨#[]⟩,.bool false,.slice none 0 0]),(w.heap.size+1,[.bool true,.slice none 0 0]),(w.heap.size,[.bool false,.slice none 0 0])] w')∧Hid (w.heap.size+1<S∧w.heap.size+1<X)∧w.heap.size<w'.heap.size∧w.heap.size+1<w'.heap.size∧w'.cell? ⟨w.heap.size+1,0,none⟩=some (.bool true)∧w'.cell? ⟨w.heap.size+1,1,none⟩=some (.slice none 0 0)∧w'.frozen? ⟨w.heap.size+1,1,none⟩=false:=fun W hW=>by
  have C3:=C2.out.below hW
  refine (hS W C3.rt).mono ?_
  rintro e w' ⟨S,X,rfl,hf,hn1,hBS,hBX,hSb,hXb⟩
  have lr:=C3.rt.lt
  have lg:=C3.rt.glt
  have hq:=C3.qf.gr.size
  have C4:=((C3.step hf hn1).ins hBX (Nat.le_trans hq hXb) oM oM).ins hBS (Nat.le_trans hq hSb) oM oM
  have lpw:=(C3.bs _ (.head _)).lt
  simp only at lpw
  refine ⟨S,X,rfl,hid C4,hid ⟨by omega,by omega⟩,?_,?_,C4.cell (b:=w.heap.size+1) (.tail _ (.tail _ (.head _))) 0 _ rfl,C4.cell (b:=w.heap.size+1) (.tail _ (.tail _ (.head _))) 1 _ rfl,C4.fz (b:=w.heap.size+1) (.tail _ (.tail _ (.head _))) 1 sM⟩
  ·exact (C4.bs _ (.tail _ (.tail _ (.tail _ (.head _))))).lt
  ·exact (C4.bs _ (.tail _ (.tail _ (.head _)))).lt
 have p0:=C2.out.cell (b:=w.heap.size+1) (.head _) 0 _ rfl
 have p1:=C2.out.cell (b:=w.heap.size+1) (.head _) 1 _ rfl
 have f1:=C2.out.fz (b:=w.heap.size+1) (.head _) 1 sM
 have lp:=(C2.out.bs _ (.head _)).lt
 simp only at lp
 clear hS hJ
 go_region_law ((first|(go_simp;go_at_call 154;refine (hsg _ tq4).mono ?_;rintro e w3 ⟨S,X,rfl,G,SX,z2,z3,a0,a1,b1⟩)|(refine step_push rfl _ _ 116 rfl 269 i0 _ 2 32 underlying116 hi0 hz0 hs0 hb0 rfl oM (Acc.nil qR 269 2) rfl rfl rfl rfl rfl oM oM ?_;intro gb cp w4 hA;have xa0:=(hA.bel.cell (p:=⟨w.heap.size+1,0,none⟩) z3).trans a0;have xa1:=(hA.bel.cell (p:=⟨w.heap.size+1,1,none⟩) z3).trans a1;have xb1:=(hA.bel.frozen (p:=⟨w.heap.size+1,1,none⟩) z3).trans b1;have HA:=hid hA;clear hA)))
 all_goals
  have hr:=HA.out.row
  have C5:=G.out.below HA.out.bel
  have gr:=G.out.rt.lt
  have gg:=G.out.rt.glt
  have gq:=G.out.qf.gr.size
  obtain ⟨hSP,hXP⟩ :=SX.out
  have hr1:=hr.1
  have C6:=C5.ins (b:=gb) (l:=[.bool false,.slice (some ⟨S,0,none⟩) 1 1]) ⟨hr.2.1,fun i v hv=>hr.2.2 i v hv,fun i _=>HA.out.frz i⟩ oM oM oM
  have C7:=hid ((C6.sub (L':=[(gb,[.bool false,.slice (some ⟨S,0,none⟩) 1 1]),(S,_),(X,_),(w.heap.size,_)]) (by
   intro q hq
   simp only [List.mem_cons,List.not_mem_nil,or_false] at hq
   rcases hq with rfl|rfl|rfl|rfl
   ·exact .head _
   ·exact .tail _ (.head _)
   ·exact .tail _ (.tail _ (.head _))
   ·exact .tail _ (.tail _ (.tail _ (.tail _ (.head _)))))).setN (a:=⟨w.heap.size+1,1,none⟩) sM lt (by simp;omega) (by
   intro q hq
   simp only [List.mem_cons,List.not_mem_nil,or_false] at hq
   rcases hq with rfl|rfl|rfl|rfl <;> simp <;> omega) (.slice (some ⟨gb,0,none⟩) 1 cp))
  have hcap:=HA.out.cap
  have nb:w.heap.size<gb∧w.heap.size<S∧w.heap.size<X:=⟨by omega,by omega,by omega⟩
  have q0:(w4.setCell ⟨w.heap.size+1,1,none⟩ (.slice (some ⟨gb,0,none⟩) 1 cp)).cell? ⟨w.heap.size+1,0,none⟩=some (.bool true):=by simp [go_sem,xa0]
  have q1:(w4.setCell ⟨w.heap.size+1,1,none⟩ (.slice (some ⟨gb,0,none⟩) 1 cp)).cell? ⟨w.heap.size+1,1,none⟩=some (.slice (some ⟨gb,0,none⟩) 1 cp):=by simp [go_sem,xa1]
  clear hr C5 C6 HA G xa0 xa1 xb1 a0 a1 b1 z2 z3 SX p0 p1 f1 lp hsg C2 gr gg gq hr1 hSP hXP
  generalize (World.setCell w4 _ _)=W7 at C7 q0 q1 ⊢
  have x0:=C7.out.cell (b:=w.heap.size) (.tail _ (.tail _ (.tail _ (.head _)))) 0 _ rfl
  have x1:=C7.out.cell (b:=w.heap.size) (.tail _ (.tail _ (.tail _ (.head _)))) 1 _ rfl
  have y0:=C7.out.fz (b:=w.heap.size) (.tail _ (.tail _ (.tail _ (.head _)))) 0 sM
  have y1:=C7.out.fz (b:=w.heap.size) (.tail _ (.tail _ (.tail _ (.head _)))) 1 sM
  have xl:=(C7.out.bs _ (.tail _ (.tail _ (.tail _ (.head _))))).lt
  go_wp2_with (first|(go_at_call 80;refine (is_n (r:=r) (g:=g) (en:=en) (dp:=0) _ _ C7.out.rt).mono ?_;rintro e w9 ⟨rfl,rfl⟩)|(refine wp_loop_unr 3 ?_;refine Unr.step ?_;intro U hU)|(refine Unr.step ?_;intro U hU))
  obtain ⟨n1,n2,n3⟩ :=nb
  have C8:=C7.out.sub (L':=[(gb,[.bool false,.slice (some ⟨S,0,none⟩) 1 1]),(S,_),(X,_)]) (by
   intro q hq
   simp only [List.mem_cons,List.not_mem_nil,or_false] at hq
   rcases hq with rfl|rfl|rfl
   ·exact .head _
   ·exact .tail _ (.head _)
   ·exact .tail _ (.tail _ (.head _)))
  have hne:∀q∈[(gb,[Value.bool false,.slice (some ⟨S,0,none⟩) 1 1]),(S,[.int .i64 4,.string ⟨#[]⟩,.int .i64 0,.int .i64 0,.int .i64 0,.int .i64 0,.bool false,.bool false,.pointer (some ⟨X,0,none⟩)]),(X,[.int .i64 4,.slice none 0 0,.bool false,.slice none 0 0,.int .i64 i,.bool la,.int .i64 lk,.int .i64 ln,.string ⟨#[]⟩,.bool false,.slice none 0 0,.bool ra,.int .i64 rk,.int .i64 rn,.string ⟨#[]⟩,.bool false,.slice none 0 0])],w.heap.size≠q.1:=by
   intro q hq
   simp only [List.mem_cons,List.not_mem_nil,or_false] at hq
   rcases hq with rfl|rfl|rfl <;> simp <;> omega
  have C9:=hid (((C8.setN (a:=⟨w.heap.size,0,none⟩) sM lt (by simp;omega) hne (.bool true)).setN (a:=⟨w.heap.size,1,none⟩) sM lt (by simp;omega) hne (.slice (some ⟨gb,0,none⟩) 1 cp)))
  refine bodyPost_ret (v:=.agg #[.bool true,.slice (some ⟨gb,0,none⟩) 1 cp]) (by simp [results,results82,go_sem,x0,x1,y0,y1,xl]) rfl ⟨gb,cp,S,X,rfl,by omega,C9.out.qf,C9.out.rt,C9.out.bs _ (.head _),C9.out.bs _ (.tail _ (.head _)),C9.out.bs _ (.tail _ (.tail _ (.head _))),by omega,by omega,by omega⟩
end Nn
section
open Go.RowKit
attribute [local go_sem] run_store_nilFunc run_store_func eqn_nil eqn_func
def regionOf:Code→Nat→Option Code
 | .region k o b,n=>if k==n then some (.region k o b) else none
 | .seq a b,n=>(regionOf a n).or (regionOf b n)
 | .cond _ a b,n=>(regionOf a n).or (regionOf b n)
 | .block _ a,n=>regionOf a n
 | .loop a,n=>regionOf a n
 | .rangeFunc _ _ a b,n=>(regionOf a n).or (regionOf b n)
 | .scope a,n=>regionOf a n
 | _,_=>none
def Fx (l:List (Nat × Value)) (x:Act):Prop:=x.defers=[]∧x.tmps.size=177∧∀q∈l,x.tmps[q.1]?=some q.2
theorem Fx.at{l:List (Nat × Value)}{x:Act}(h:Fx l x)(i:Nat)(v:Value)(hm:(i,v)∈l): x.tmps.getD i undef=v:=by
 have:=h.2.2 (i,v) hm
 rw [Array.getD_eq_getD_getElem?,this];rfl
theorem Fx.lit_of{l:List (Nat × Value)}{x:Act}(h:Fx l x)(t:Array Value)(ht:((List.range 177).map fun i=>x.tmps.getD i undef).toArray=t): x={ tmps:=t,defers:=[] }:=by
 have h1:=row_lit x.tmps 177 h.2.1
 cases x with
 | mk t' d=>have hd:d=[]:=h.1;subst hd;exact congrArg (fun t=>(⟨t,[]⟩:Act)) (h1.trans ht)
theorem Fx.lit177 {l : List (Nat × Value)} {x : Act} (h : Fx l x) : x = { tmps := (fun g : Nat → Value => #[g 0,g 1,g 2,g 3,g 4,g 5,g 6,g 7,g 8,g 9,g 10,g 11,g 12,g 13,g 14,g 15,g 16,g 17,g 18,g 19,g 20,g 21,g 22,g 23,g 24,g 25,g 26,g 27,g 28,g 29,g 30,g 31,g 32,g 33,g 34,g 35,g 36,g 37,g 38,g 39,g 40,g 41,g 42,g 43,g 44,g 45,g 46,g 47,g 48,g 49,g 50,g 51,g 52,g 53,g 54,g 55,g 56,g 57,g 58,g 59,g 60,g 61,g 62,g 63,g 64,g 65,g 66,g 67,g 68,g 69,g 70,g 71,g 72,g 73,g 74,g 75,g 76,g 77,g 78,g 79,g 80,g 81,g 82,g 83,g 84,g 85,g 86,g 87,g 88,g 89,g 90,g 91,g 92,g 93,g 94,g 95,g 96,g 97,g 98,g 99,g 100,g 101,g 102,g 103,g 104,g 105,g 106,g 107,g 108,g 109,g 110,g 111,g 112,g 113,g 114,g 115,g 116,g 117,g 118,g 119,g 120,g 121,g 122,g 123,g 124,g 125,g 126,g 127,g 128,g 129,g 130,g 131,g 132,g 133,g 134,g 135,g 136,g 137,g 138,g 139,g 140,g 141,g 142,g 143,g 144,g 145,g 146,g 147,g 148,g 149,g 150,g 151,g 152,g 153,g 154,g 155,g 156,g 157,g 158,g 159,g 160,g 161,g 162,g 163,g 164,g 165,g 166,g 167,g 168,g 169,g 170,g 171,g 172,g 173,g 174,g 175,g 176]) fun i => x.tmps.getD i undef, defers := [] } := h.lit_of _ rfl
theorem Fx.mk0(t:Array Value)(hs:t.size=177): Fx [] { tmps:=t,defers:=[] }:=⟨rfl,hs,by simp⟩
theorem Fx.cons{l:List (Nat × Value)}{x:Act}(h:Fx l x)(i:Nat)(v:Value)(hv:x.tmps[i]?=some v): Fx ((i,v)::l) x:=⟨h.1,h.2.1,by
 intro q hq
 rcases List.mem_cons.1 hq with rfl|hq
 ·exact hv
 ·exact h.2.2 q hq⟩
set_option maxHeartbeats 4000000 in
theorem rg2{c:Code}(hc:regionOf (scopeBody f163) 2=some c)(a g c1:Nat)(x:Act)(hx:Fx [(0,.pointer (some ⟨a,0,none⟩))] x)(W:World)(aw7:W.cell? ⟨a,7,none⟩=some (.int .i64 0))(aw4:W.cell? ⟨a,4,none⟩=some (.slice (some ⟨g,0,none⟩) 1 c1))(K:Act→World→Prop)(Q:Exit→Act→World→Prop)(hk:∀x',Fx [(0,.pointer (some ⟨a,0,none⟩)),(30,.bool false)] x'→K x' W): c.wp prog (Exit.then K Q) x W:=by
 injection (show some c=some _ from hc.symm.trans rfl) with hc
 subst hc
 have v0:=hx.at 0 (.pointer (some ⟨a,0,none⟩)) sM
 have e:=hx.lit177
 rw [e];simp only [v0]
 clear hx v0
 clear e
 have gen:=qG x
 obtain ⟨u,hu⟩ :=gen
 simp only [hu]
 clear hu x
 go_wp2_with fail
 exact (Fx.cons (Fx.cons (Fx.mk0 _ rfl) 30 _ rfl) 0 _ rfl)
set_option maxHeartbeats 4000000 in
theorem rg3{c:Code}(hc:regionOf (scopeBody f163) 3=some c)(a g c1:Nat)(x:Act)(hx:Fx [(0,.pointer (some ⟨a,0,none⟩))] x)(W:World)(aw4:W.cell? ⟨a,4,none⟩=some (.slice (some ⟨g,0,none⟩) 1 c1))(K:Act→World→Prop)(Q:Exit→Act→World→Prop)(hk:∀x' n,Fx [(0,.pointer (some ⟨a,0,none⟩)),(4,.pointer (some ⟨g,0,none⟩))] x'→K x' (W.drewN n)): c.wp prog (Exit.then K Q) x W:=by
 injection (show some c=some _ from hc.symm.trans rfl) with hc
 subst hc
 have v0:=hx.at 0 (.pointer (some ⟨a,0,none⟩)) sM
 have e:=hx.lit177
 rw [e];simp only [v0]
 clear hx v0
 clear e
 have gen:=qG x
 obtain ⟨u,hu⟩ :=gen
 simp only [hu]
 clear hu x
 go_quiet (fail)
 exact hk _ _ (Fx.cons (Fx.cons (Fx.mk0 _ rfl) 4 _ rfl) 0 _ rfl)
set_option maxHeartbeats 4000000 in
theorem rg4{c:Code}(hc:regionOf (scopeBody f163) 4=some c)(a g m gs cs:Nat)(x:Act)(hx:Fx [(0,.pointer (some ⟨a,0,none⟩)),(4,.pointer (some ⟨g,0,none⟩))] x)(W:World)(aw0:W.cell? ⟨a,0,none⟩=some (.pointer (some ⟨m,0,none⟩)))(mm1:W.cell? ⟨m,1,none⟩=some (.slice (some ⟨gs,0,none⟩) 1 cs))(ds0:W.cell? ⟨gs,0,none⟩=some (.bool false))(ds1:W.cell? ⟨gs,1,none⟩=some (.int .i64 0))(ds2:W.cell? ⟨gs,2,none⟩=some (.int .i64 1))(fr0:W.cell? ⟨g,0,none⟩=some (.int .i64 0))(alt0:a<W.heap.size)(mlt0:m<W.heap.size)(gslt0:gs<W.heap.size)(glt0:g<W.heap.size)(K:Act→World→Prop)(Q:Exit→Act→World→Prop)(hk:∀x' W',Fx [(0,.pointer (some ⟨a,0,none⟩)),(4,.pointer (some ⟨g,0,none⟩)),(5,.pointer (some ⟨W.heap.size,0,none⟩))] x'→Below W.heap.size W W'→W.heap.size<W'.heap.size→W'.cell? ⟨W.heap.size,0,none⟩=some (.bool false)→W'.cell? ⟨W.heap.size,2,none⟩=some (.int .i64 1)→K x' W'): c.wp prog (Exit.then K Q) x W:=by
 injection (show some c=some _ from hc.symm.trans rfl) with hc
 subst hc
 have v0:=hx.at 0 (.pointer (some ⟨a,0,none⟩)) sM
 have v4:=hx.at 4 (.pointer (some ⟨g,0,none⟩)) sM
 have e:=hx.lit177
 rw [e];simp only [v0,v4]
 clear hx v0 v4
 clear e
 have gen:=qG x
 obtain ⟨u,hu⟩ :=gen
 simp only [hu]
 clear hu x
 have:a<W.heap.size+1:=oM
 have:m<W.heap.size+1:=oM
 have:gs<W.heap.size+1:=oM
 have:g<W.heap.size+1:=oM
 go_region
 exact hk _ _ (Fx.cons (Fx.cons (Fx.cons (Fx.mk0 _ rfl) 5 _ rfl) 4 _ rfl) 0 _ rfl) ((qR.alloc qL _).drew) sM (by simp [go_sem]) (by simp [go_sem])
set_option maxHeartbeats 4000000 in
theorem rg5t{c:Code}(hc:regionOf (scopeBody f163) 5=some c)(a g D:Nat)(x:Act)(hx:Fx [(0,.pointer (some ⟨a,0,none⟩)),(4,.pointer (some ⟨g,0,none⟩)),(5,.pointer (some ⟨D,0,none⟩))] x)(W:World)(fr1:W.cell? ⟨g,1,none⟩=some (.int .i64 0))(dc2:W.cell? ⟨D,2,none⟩=some (.int .i64 1))(K:Act→World→Prop)(Q:Exit→Act→World→Prop)(hk:∀x' n,Fx [(0,.pointer (some ⟨a,0,none⟩)),(4,.pointer (some ⟨g,0,none⟩)),(5,.pointer (some ⟨D,0,none⟩)),(62,.bool true)] x'→K x' (W.drewN n)): c.wp prog (Exit.then K Q) x W:=by
 injection (show some c=some _ from hc.symm.trans rfl) with hc
 subst hc
 have v0:=hx.at 0 (.pointer (some ⟨a,0,none⟩)) sM
 have v4:=hx.at 4 (.pointer (some ⟨g,0,none⟩)) sM
 have v5:=hx.at 5 (.pointer (some ⟨D,0,none⟩)) sM
 have e:=hx.lit177
 rw [e];simp only [v0,v4,v5]
 clear hx v0 v4 v5
 clear e
 have gen:=qG x
 obtain ⟨u,hu⟩ :=gen
 simp only [hu]
 clear hu x
 go_quiet (fail)
 exact hk _ _ (Fx.cons (Fx.cons (Fx.cons (Fx.cons (Fx.mk0 _ rfl) 62 _ rfl) 5 _ rfl) 4 _ rfl) 0 _ rfl)
set_option maxHeartbeats 4000000 in
theorem rg5f{c:Code}(hc:regionOf (scopeBody f163) 5=some c)(a g D:Nat)(x:Act)(hx:Fx [(0,.pointer (some ⟨a,0,none⟩)),(4,.pointer (some ⟨g,0,none⟩)),(5,.pointer (some ⟨D,0,none⟩))] x)(W:World)(fr1:W.cell? ⟨g,1,none⟩=some (.int .i64 1))(dc2:W.cell? ⟨D,2,none⟩=some (.int .i64 1))(K:Act→World→Prop)(Q:Exit→Act→World→Prop)(hk:∀x' n,Fx [(0,.pointer (some ⟨a,0,none⟩)),(4,.pointer (some ⟨g,0,none⟩)),(5,.pointer (some ⟨D,0,none⟩)),(62,.bool false)] x'→K x' (W.drewN n)): c.wp prog (Exit.then K Q) x W:=by
 injection (show some c=some _ from hc.symm.trans rfl) with hc
 subst hc
 have v0:=hx.at 0 (.pointer (some ⟨a,0,none⟩)) sM
 have v4:=hx.at 4 (.pointer (some ⟨g,0,none⟩)) sM
 have v5:=hx.at 5 (.pointer (some ⟨D,0,none⟩)) sM
 have e:=hx.lit177
 rw [e];simp only [v0,v4,v5]
 clear hx v0 v4 v5
 clear e
 have gen:=qG x
 obtain ⟨u,hu⟩ :=gen
 simp only [hu]
 clear hu x
 go_quiet (fail)
 exact hk _ _ (Fx.cons (Fx.cons (Fx.cons (Fx.cons (Fx.mk0 _ rfl) 62 _ rfl) 5 _ rfl) 4 _ rfl) 0 _ rfl)
set_option maxHeartbeats 4000000 in
theorem rg6n{c:Code}(hc:regionOf (scopeBody f163) 6=some c)(a g D:Nat)(x:Act)(hx:Fx [(0,.pointer (some ⟨a,0,none⟩)),(4,.pointer (some ⟨g,0,none⟩)),(5,.pointer (some ⟨D,0,none⟩))] x)(W:World)(fr6:W.cell? ⟨g,6,none⟩=some (.nilFunc))(K:Act→World→Prop)(Q:Exit→Act→World→Prop)(hk:∀x',Fx [(0,.pointer (some ⟨a,0,none⟩)),(4,.pointer (some ⟨g,0,none⟩)),(5,.pointer (some ⟨D,0,none⟩)),(67,.bool true)] x'→K x' W): c.wp prog (Exit.then K Q) x W:=by
 injection (show some c=some _ from hc.symm.trans rfl) with hc
 subst hc
 have v0:=hx.at 0 (.pointer (some ⟨a,0,none⟩)) sM
 have v4:=hx.at 4 (.pointer (some ⟨g,0,none⟩)) sM
 have v5:=hx.at 5 (.pointer (some ⟨D,0,none⟩)) sM
 have e:=hx.lit177
 rw [e];simp only [v0,v4,v5]
 clear hx v0 v4 v5
 clear e
 have gen:=qG x
 obtain ⟨u,hu⟩ :=gen
 simp only [hu]
 clear hu x
 go_wp2_with fail
 exact (Fx.cons (Fx.cons (Fx.cons (Fx.cons (Fx.mk0 _ rfl) 67 _ rfl) 5 _ rfl) 4 _ rfl) 0 _ rfl)
set_option maxHeartbeats 4000000 in
theorem rg6f{c:Code}(hc:regionOf (scopeBody f163) 6=some c)(a g D:Nat)(f:Fn)(b1 b2:Array Value)(x:Act)(hx:Fx [(0,.pointer (some ⟨a,0,none⟩)),(4,.pointer (some ⟨g,0,none⟩)),(5,.pointer (some ⟨D,0,none⟩))] x)(W:World)(fr6:W.cell? ⟨g,6,none⟩=some (.func f b1 b2))(K:Act→World→Prop)(Q:Exit→Act→World→Prop)(hk:∀x',Fx [(0,.pointer (some ⟨a,0,none⟩)),(4,.pointer (some ⟨g,0,none⟩)),(5,.pointer (some ⟨D,0,none⟩)),(67,.bool false)] x'→K x' W): c.wp prog (Exit.then K Q) x W:=by
 injection (show some c=some _ from hc.symm.trans rfl) with hc
 subst hc
 have v0:=hx.at 0 (.pointer (some ⟨a,0,none⟩)) sM
 have v4:=hx.at 4 (.pointer (some ⟨g,0,none⟩)) sM
 have v5:=hx.at 5 (.pointer (some ⟨D,0,none⟩)) sM
 have e:=hx.lit177
 rw [e];simp only [v0,v4,v5]
 clear hx v0 v4 v5
 clear e
 have gen:=qG x
 obtain ⟨u,hu⟩ :=gen
 simp only [hu]
 clear hu x
 go_wp2_with fail
 exact (Fx.cons (Fx.cons (Fx.cons (Fx.cons (Fx.mk0 _ rfl) 67 _ rfl) 5 _ rfl) 4 _ rfl) 0 _ rfl)
set_option maxHeartbeats 4000000 in
theorem rg15{c:Code}(hc:regionOf (scopeBody f163) 15=some c)(a g D:Nat)(x:Act)(hx:Fx [(0,.pointer (some ⟨a,0,none⟩)),(4,.pointer (some ⟨g,0,none⟩)),(5,.pointer (some ⟨D,0,none⟩)),(9,.bool true)] x)(W:World)(dc0:W.cell? ⟨D,0,none⟩=some (.bool false))(K:Act→World→Prop)(Q:Exit→Act→World→Prop)(hk:∀x',Fx [(0,.pointer (some ⟨a,0,none⟩)),(4,.pointer (some ⟨g,0,none⟩)),(144,.bool false)] x'→K x' W): c.wp prog (Exit.then K Q) x W:=by
 injection (show some c=some _ from hc.symm.trans rfl) with hc
 subst hc
 have v0:=hx.at 0 (.pointer (some ⟨a,0,none⟩)) sM
 have v4:=hx.at 4 (.pointer (some ⟨g,0,none⟩)) sM
 have v5:=hx.at 5 (.pointer (some ⟨D,0,none⟩)) sM
 have v9:=hx.at 9 (.bool true) sM
 have e:=hx.lit177
 rw [e];simp only [v0,v4,v5,v9]
 clear hx v0 v4 v5 v9
 clear e
 have gen:=qG x
 obtain ⟨u,hu⟩ :=gen
 simp only [hu]
 clear hu x
 go_wp2_with fail
 exact (Fx.cons (Fx.cons (Fx.cons (Fx.mk0 _ rfl) 144 _ rfl) 4 _ rfl) 0 _ rfl)
end
section
open Go.RowKit
attribute [local go_sem] run_store_nilFunc run_store_func eqn_nil eqn_func
structure G4 (p g:Nat) (W0 W:World):Prop where
 b:Below W0.heap.size W0 W
 lt:g<W.heap.size
 c:(W).cell? ⟨g,2,none⟩=some (.pointer (some ⟨p,0,none⟩))∧(W).cell? ⟨g,3,none⟩=some (.int .i64 (-1))∧(W).cell? ⟨g,4,none⟩=some (.pointer (some ⟨p,0,none⟩))∧(W).cell? ⟨g,5,none⟩=some (.int .i64 (-1))
theorem g4_below{p g:Nat}{W0 W W':World}(h:Hid (G4 p g W0 W))(hb:Below W.heap.size W W'): Hid (G4 p g W0 W'):=hid ⟨h.out.b.trans (hb.mono h.out.b.size),Nat.lt_of_lt_of_le h.out.lt hb.size,(hb.cell (p:=⟨g,2,none⟩) h.out.lt).trans h.out.c.1,(hb.cell (p:=⟨g,3,none⟩) h.out.lt).trans h.out.c.2.1,(hb.cell (p:=⟨g,4,none⟩) h.out.lt).trans h.out.c.2.2.1,(hb.cell (p:=⟨g,5,none⟩) h.out.lt).trans h.out.c.2.2.2⟩
theorem g4_drew{p g:Nat}{W0 W:World}(h:Hid (G4 p g W0 W)): Hid (G4 p g W0 W.drew):=g4_below h qR.drew
theorem g4_alloc{p g:Nat}{W0 W:World}(h:Hid (G4 p g W0 W))(o:Obj): Hid (G4 p g W0 (W.alloc o)):=g4_below h (qR.alloc qL o)
theorem g4_set{p g:Nat}{W0 W:World}(h:Hid (G4 p g W0 W))(hg:g<W0.heap.size){b:Nat}(c:Nat)(hb:W0.heap.size≤b)(v:Value): Hid (G4 p g W0 (W.setCell ⟨b,c,none⟩ v)):=by
 have hne:∀k,(⟨b,c,none⟩:Addr)≠⟨g,k,none⟩ :=fun k e=>by injection e with e1;omega
 exact hid ⟨Below.setCell h.out.b hb v,by simpa [World.setCell] using h.out.lt,(qO (hne 2)).trans h.out.c.1,(qO (hne 3)).trans h.out.c.2.1,(qO (hne 4)).trans h.out.c.2.2.1,(qO (hne 5)).trans h.out.c.2.2.2⟩
theorem g4_held{p g:Nat}{W0 W:World}(h:Hid (G4 p g W0 W)): (W).cell? ⟨g,2,none⟩=some (.pointer (some ⟨p,0,none⟩))∧(W).cell? ⟨g,3,none⟩=some (.int .i64 (-1))∧(W).cell? ⟨g,4,none⟩=some (.pointer (some ⟨p,0,none⟩))∧(W).cell? ⟨g,5,none⟩=some (.int .i64 (-1))∧Hid (G4 p g W0 W):=⟨h.out.c.1,h.out.c.2.1,h.out.c.2.2.1,h.out.c.2.2.2,h⟩
set_option maxHeartbeats 4000000 in
theorem rg14{c:Code}(hc:regionOf (scopeBody f163) 14=some c)(a g D p n L:Nat)(T V:ByteArray)(hD:Doc T V n L)(x:Act)(hx:Fx [(0,.pointer (some ⟨a,0,none⟩)),(4,.pointer (some ⟨g,0,none⟩)),(5,.pointer (some ⟨D,0,none⟩))] x)(W:World)(hXW:Ix W p T n)(fr2:W.cell? ⟨g,2,none⟩=some (.pointer (some ⟨p,0,none⟩)))(fr3:W.cell? ⟨g,3,none⟩=some (.int .i64 (-1)))(fr4:W.cell? ⟨g,4,none⟩=some (.pointer (some ⟨p,0,none⟩)))(fr5:W.cell? ⟨g,5,none⟩=some (.int .i64 (-1)))(glt:g<W.heap.size)(K:Act→World→Prop)(Q:Exit→Act→World→Prop)(hk:∀x' W',Fx [(0,.pointer (some ⟨a,0,none⟩)),(4,.pointer (some ⟨g,0,none⟩)),(5,.pointer (some ⟨D,0,none⟩)),(9,.bool true)] x'→Below W.heap.size W W'→K x' W'): c.wp prog (Exit.then K Q) x W:=by
 injection (show some c=some _ from hc.symm.trans rfl) with hc
 subst hc
 have kv0:=hx.at 0 (.pointer (some ⟨a,0,none⟩)) sM
 have kv4:=hx.at 4 (.pointer (some ⟨g,0,none⟩)) sM
 have kv5:=hx.at 5 (.pointer (some ⟨D,0,none⟩)) sM
 have e:=hx.lit177
 rw [e];simp only [kv0,kv4,kv5]
 clear hx kv0 kv4 kv5
 clear e
 have gen:=qG x
 obtain ⟨u,hu⟩ :=gen
 simp only [hu]
 clear hu x
 have HK:=hid hk
 clear hk
 have:g<W.heap.size+1:=oM
 have:g<W.heap.size+1+1:=oM
 have:g<W.heap.size+1+1+1:=oM
 have:g<W.heap.size+1+1+1+1:=oM
 have:Hid (G4 p g W W):=hid ⟨qR,glt,fr2,fr3,fr4,fr5⟩
 go_region_held3 (fun w'=>(w').cell? ⟨g,2,none⟩=some (.pointer (some ⟨p,0,none⟩))∧(w').cell? ⟨g,3,none⟩=some (.int .i64 (-1))∧(w').cell? ⟨g,4,none⟩=some (.pointer (some ⟨p,0,none⟩))∧(w').cell? ⟨g,5,none⟩=some (.int .i64 (-1))∧Hid (G4 p g W w')) (first|exact g4_held (by repeat' (first|assumption|refine g4_drew ?_|refine g4_set ?_ glt _ (by first|exact qL|omega) _|refine g4_alloc ?_ _))) (first|(go_at_call 227;refine (after_0 p n L T V hD _ (hXW.below tq4)).mono ?_;rintro e w9 ⟨rfl,hb⟩;have HB9:=bel_step (w:=W) tq4 hb;have HG9:=g4_below (p:=p) (g:=g) (W0:=W) (by repeat' (first|assumption|refine g4_drew ?_|refine g4_set ?_ glt _ (by first|exact qL|omega) _|refine g4_alloc ?_ _)) hb;have s9:=hb.size;(try simp at s9);try (have k0:=hb.cl W.heap.size 0;simp [go_sem, *] at k0);try (have kz0:=hb.fz W.heap.size 0;simp [go_sem, *] at kz0);try (have k1:=hb.cl W.heap.size 1;simp [go_sem, *] at k1);try (have kz1:=hb.fz W.heap.size 1;simp [go_sem, *] at kz1);clear hb))
 all_goals exact HK.out _ _ (Fx.cons (Fx.cons (Fx.cons (Fx.cons (Fx.mk0 _ rfl) 9 _ rfl) 5 _ rfl) 4 _ rfl) 0 _ rfl) tq4
end
section
open Go.RowKit
attribute [local go_sem] run_store_nilFunc run_store_func eqn_nil eqn_func
set_option maxHeartbeats 4000000 in
theorem rg19{c:Code}(hc:regionOf (scopeBody f163) 19=some c)(a g c1:Nat)(x:Act)(hx:Fx [(0,.pointer (some ⟨a,0,none⟩)),(4,.pointer (some ⟨g,0,none⟩))] x)(W:World)(aw4:W.cell? ⟨a,4,none⟩=some (.slice (some ⟨g,0,none⟩) 1 c1))(awz4:W.frozen? ⟨a,4,none⟩=false)(K:Act→World→Prop)(Q:Exit→Act→World→Prop)(hk:∀x' n,Fx [(0,.pointer (some ⟨a,0,none⟩))] x'→K x' ((W.setCell ⟨a,4,none⟩ (.slice (some ⟨g,0,none⟩) 0 c1)).drewN n)): c.wp prog (Exit.then K Q) x W:=by
 injection (show some c=some _ from hc.symm.trans rfl) with hc
 subst hc
 have kv0:=hx.at 0 (.pointer (some ⟨a,0,none⟩)) sM
 have kv4:=hx.at 4 (.pointer (some ⟨g,0,none⟩)) sM
 have e:=hx.lit177
 rw [e];simp only [kv0,kv4]
 clear hx kv0 kv4
 clear e
 have gen:=qG x
 obtain ⟨u,hu⟩ :=gen
 simp only [hu]
 clear hu x
 have HK:=hid hk
 clear hk
 go_region
 exact HK.out _ 1 (Fx.cons (Fx.mk0 _ rfl) 0 _ rfl)
end
section
open Go.RowKit
attribute [local go_sem] run_store_nilFunc run_store_func eqn_nil eqn_func
set_option maxHeartbeats 4000000 in
theorem rg8b{c:Code}(hc:regionOf (scopeBody f163) 8=some c)(a g bx gc:Nat)(x:Act)(hx:Fx [(0,.pointer (some ⟨a,0,none⟩)),(4,.pointer (some ⟨g,0,none⟩))] x)(W:World)(fr6:W.cell? ⟨g,6,none⟩=some (.func (.func 324) #[] #[.pointer (some ⟨bx,0,none⟩)]))(glt:g<W.heap.size)(hbx:bx<W.heap.size)(bc:W.cell? ⟨bx,0,none⟩=some (.slice (some ⟨gc,0,none⟩) 0 0))(K:Act→World→Prop)(Q:Exit→Act→World→Prop)(hk:∀x' W',Fx [(0,.pointer (some ⟨a,0,none⟩)),(4,.pointer (some ⟨g,0,none⟩)),(7,.bool false)] x'→Below W.heap.size W W'→K x' W'): c.wp prog (Exit.then K Q) x W:=by
 injection (show some c=some _ from hc.symm.trans rfl) with hc
 subst hc
 have kv0:=hx.at 0 (.pointer (some ⟨a,0,none⟩)) sM
 have kv4:=hx.at 4 (.pointer (some ⟨g,0,none⟩)) sM
 have e:=hx.lit177
 rw [e];simp only [kv0,kv4]
 clear hx kv0 kv4
 clear e
 have gen:=qG x
 obtain ⟨u,hu⟩ :=gen
 simp only [hu]
 clear hu x
 have HK:=hid hk
 clear hk
 go_wp2_with fail
 refine (lst_2 bx gc _ hbx bc).mono ?_;rintro e w6 ⟨rfl,hb6⟩
 have HB6:=bel_step (w:=W) tq4 hb6
 clear hb6
 go_wp2_with fail
 exact HK.out _ _ (Fx.cons (Fx.cons (Fx.cons (Fx.mk0 _ rfl) 7 _ rfl) 4 _ rfl) 0 _ rfl) (by first|exact HB6.out.alloc HB6.out.size _|exact (HB6.out.alloc HB6.out.size _).drew)
set_option maxHeartbeats 4000000 in
theorem rg11{c:Code}(hc:regionOf (scopeBody f163) 11=some c)(a g:Nat)(v7:Value)(x:Act)(hx:Fx [(0,.pointer (some ⟨a,0,none⟩)),(4,.pointer (some ⟨g,0,none⟩)),(7,v7)] x)(W:World)(aw7:W.cell? ⟨a,7,none⟩=some (.int .i64 0))(K:Act→World→Prop)(Q:Exit→Act→World→Prop)(hk:∀x',Fx [(0,.pointer (some ⟨a,0,none⟩)),(4,.pointer (some ⟨g,0,none⟩)),(7,v7),(109,.bool false)] x'→K x' W): c.wp prog (Exit.then K Q) x W:=by
 injection (show some c=some _ from hc.symm.trans rfl) with hc
 subst hc
 have kv0:=hx.at 0 (.pointer (some ⟨a,0,none⟩)) sM
 have kv4:=hx.at 4 (.pointer (some ⟨g,0,none⟩)) sM
 have kv7:=hx.at 7 (v7) sM
 have e:=hx.lit177
 rw [e];simp only [kv0,kv4,kv7]
 clear hx kv0 kv4 kv7
 clear e
 have gen:=qG x
 obtain ⟨u,hu⟩ :=gen
 simp only [hu]
 clear hu x
 go_wp2_with fail
 exact (Fx.cons (Fx.cons (Fx.cons (Fx.cons (Fx.mk0 _ rfl) 109 _ rfl) 7 _ rfl) 4 _ rfl) 0 _ rfl)
set_option maxHeartbeats 4000000 in
theorem rg11a{c:Code}(hc:regionOf (scopeBody f163) 11=some c)(a g:Nat)(v6 v7:Value)(x:Act)(hx:Fx [(0,.pointer (some ⟨a,0,none⟩)),(4,.pointer (some ⟨g,0,none⟩)),(6,v6),(7,v7)] x)(W:World)(aw7:W.cell? ⟨a,7,none⟩=some (.int .i64 0))(K:Act→World→Prop)(Q:Exit→Act→World→Prop)(hk:∀x',Fx [(0,.pointer (some ⟨a,0,none⟩)),(4,.pointer (some ⟨g,0,none⟩)),(6,v6),(7,v7),(109,.bool false)] x'→K x' W): c.wp prog (Exit.then K Q) x W:=by
 injection (show some c=some _ from hc.symm.trans rfl) with hc
 subst hc
 have kv0:=hx.at 0 (.pointer (some ⟨a,0,none⟩)) sM
 have kv4:=hx.at 4 (.pointer (some ⟨g,0,none⟩)) sM
 have kv6:=hx.at 6 (v6) sM
 have kv7:=hx.at 7 (v7) sM
 have e:=hx.lit177
 rw [e];simp only [kv0,kv4,kv6,kv7]
 clear hx kv0 kv4 kv6 kv7
 clear e
 have gen:=qG x
 obtain ⟨u,hu⟩ :=gen
 simp only [hu]
 clear hu x
 go_wp2_with fail
 exact (Fx.cons (Fx.cons (Fx.cons (Fx.cons (Fx.cons (Fx.mk0 _ rfl) 109 _ rfl) 7 _ rfl) 6 _ rfl) 4 _ rfl) 0 _ rfl)
set_option maxHeartbeats 4000000 in
theorem rg12t{c:Code}(hc:regionOf (scopeBody f163) 12=some c)(a g:Nat)(v6:Value)(x:Act)(hx:Fx [(0,.pointer (some ⟨a,0,none⟩)),(4,.pointer (some ⟨g,0,none⟩)),(6,v6),(7,.bool true)] x)(W:World)(K:Act→World→Prop)(Q:Exit→Act→World→Prop)(hk:∀x',Fx [(0,.pointer (some ⟨a,0,none⟩)),(4,.pointer (some ⟨g,0,none⟩)),(6,v6),(115,.bool true)] x'→K x' W): c.wp prog (Exit.then K Q) x W:=by
 injection (show some c=some _ from hc.symm.trans rfl) with hc
 subst hc
 have kv0:=hx.at 0 (.pointer (some ⟨a,0,none⟩)) sM
 have kv4:=hx.at 4 (.pointer (some ⟨g,0,none⟩)) sM
 have kv6:=hx.at 6 (v6) sM
 have kv7:=hx.at 7 (.bool true) sM
 have e:=hx.lit177
 rw [e];simp only [kv0,kv4,kv6,kv7]
 clear hx kv0 kv4 kv6 kv7
 clear e
 have gen:=qG x
 obtain ⟨u,hu⟩ :=gen
 simp only [hu]
 clear hu x
 go_wp2_with fail
 exact (Fx.cons (Fx.cons (Fx.cons (Fx.cons (Fx.mk0 _ rfl) 115 _ rfl) 6 _ rfl) 4 _ rfl) 0 _ rfl)
set_option maxHeartbeats 4000000 in
theorem rg12f{c:Code}(hc:regionOf (scopeBody f163) 12=some c)(a g:Nat)(x:Act)(hx:Fx [(0,.pointer (some ⟨a,0,none⟩)),(4,.pointer (some ⟨g,0,none⟩)),(7,.bool false)] x)(W:World)(K:Act→World→Prop)(Q:Exit→Act→World→Prop)(hk:∀x',Fx [(0,.pointer (some ⟨a,0,none⟩)),(4,.pointer (some ⟨g,0,none⟩)),(115,.bool false)] x'→K x' W): c.wp prog (Exit.then K Q) x W:=by
 injection (show some c=some _ from hc.symm.trans rfl) with hc
 subst hc
 have kv0:=hx.at 0 (.pointer (some ⟨a,0,none⟩)) sM
 have kv4:=hx.at 4 (.pointer (some ⟨g,0,none⟩)) sM
 have kv7:=hx.at 7 (.bool false) sM
 have e:=hx.lit177
 rw [e];simp only [kv0,kv4,kv7]
 clear hx kv0 kv4 kv7
 clear e
 have gen:=qG x
 obtain ⟨u,hu⟩ :=gen
 simp only [hu]
 clear hu x
 go_wp2_with fail
 exact (Fx.cons (Fx.cons (Fx.cons (Fx.mk0 _ rfl) 115 _ rfl) 4 _ rfl) 0 _ rfl)
set_option maxHeartbeats 4000000 in
theorem rg9{c:Code}(hc:regionOf (scopeBody f163) 9=some c)(a g:Nat)(x:Act)(hx:Fx [(0,.pointer (some ⟨a,0,none⟩)),(4,.pointer (some ⟨g,0,none⟩))] x)(W:World)(fr1:W.cell? ⟨g,1,none⟩=some (.int .i64 0))(fz1:W.frozen? ⟨g,1,none⟩=false)(K:Act→World→Prop)(Q:Exit→Act→World→Prop)(hk:∀x',Fx [(0,.pointer (some ⟨a,0,none⟩)),(4,.pointer (some ⟨g,0,none⟩))] x'→K x' (W.setCell ⟨g,1,none⟩ (.int .i64 1))): c.wp prog (Exit.then K Q) x W:=by
 injection (show some c=some _ from hc.symm.trans rfl) with hc
 subst hc
 have kv0:=hx.at 0 (.pointer (some ⟨a,0,none⟩)) sM
 have kv4:=hx.at 4 (.pointer (some ⟨g,0,none⟩)) sM
 have e:=hx.lit177
 rw [e];simp only [kv0,kv4]
 clear hx kv0 kv4
 clear e
 have gen:=qG x
 obtain ⟨u,hu⟩ :=gen
 simp only [hu]
 clear hu x
 go_wp2_with fail
 exact (Fx.cons (Fx.cons (Fx.mk0 _ rfl) 4 _ rfl) 0 _ rfl)
set_option maxHeartbeats 4000000 in
theorem rg10{c:Code}(hc:regionOf (scopeBody f163) 10=some c)(a g:Nat)(v6:Value)(x:Act)(hx:Fx [(0,.pointer (some ⟨a,0,none⟩)),(4,.pointer (some ⟨g,0,none⟩))] x)(W:World)(fr6:W.cell? ⟨g,6,none⟩=some (v6))(fz6:W.frozen? ⟨g,6,none⟩=false)(K:Act→World→Prop)(Q:Exit→Act→World→Prop)(hk:∀x',Fx [(0,.pointer (some ⟨a,0,none⟩)),(4,.pointer (some ⟨g,0,none⟩))] x'→K x' (W.setCell ⟨g,6,none⟩ .nilFunc)): c.wp prog (Exit.then K Q) x W:=by
 injection (show some c=some _ from hc.symm.trans rfl) with hc
 subst hc
 have kv0:=hx.at 0 (.pointer (some ⟨a,0,none⟩)) sM
 have kv4:=hx.at 4 (.pointer (some ⟨g,0,none⟩)) sM
 have e:=hx.lit177
 rw [e];simp only [kv0,kv4]
 clear hx kv0 kv4
 clear e
 have gen:=qG x
 obtain ⟨u,hu⟩ :=gen
 simp only [hu]
 clear hu x
 go_wp2_with fail
 exact (Fx.cons (Fx.cons (Fx.mk0 _ rfl) 4 _ rfl) 0 _ rfl)
end
section
open Go.RowKit
theorem Fx.ev{l:List (Nat × Value)}{x:Act}(h:Fx l x)(i:Nat)(v:Value)(hm:(i,v)∈l): x.eval (.tmp i)=v:=by
 have:=h.2.2 (i,v) hm
 simp [Act.eval,this]
theorem wp_then_self{P:Program}{c:Code}{Q:Exit→Act→World→Prop}{a:Act}{w:World}(h:c.wp P (Exit.then (fun a w=>Q .normal a w) Q) a w): c.wp P Q a w:=by
 refine wp_mono h ?_
 intro e a w hq
 cases e <;> exact hq
theorem Fx.sub{l l':List (Nat × Value)}{x:Act}(h:Fx l x)(hs:∀q∈l',q∈l): Fx l' x:=⟨h.1,h.2.1,fun q hq=>h.2.2 q (hs q hq)⟩
theorem Ac.fx{a:Nat}{x:Act}(h:Ac a x): Fx [(0,.pointer (some ⟨a,0,none⟩))] x:=⟨h.d,h.s,by intro q hq;simp at hq;subst hq;exact h.z⟩
set_option maxHeartbeats 4000000 in
theorem stB2(w0:World)(a m gp cp gs cs gl cl:Nat)(mo:Int)(hmo:1≤mo)(p n L:Nat)(T V:ByteArray)(hD:Doc T V n L)(hX:Ix w0 p T n)(J:Nat→Act→World→Prop)(Q:Exit→Act→World→Prop)(x:Act)(W:World)(hx:Ac a x)(hS:StB w0 a m p gp cp gs cs gl cl mo W)(hJ:∀a' W',Ac a a'→StC w0 a m p gp cp gs cs gl cl mo W'→J 0 a' W'): ∃rest,findLabel (scopeBody f163) 0=some (Code.skip.seq rest)∧rest.wp prog (jumps J Q) x W:=by
 obtain ⟨g,c,gf,cf,bx,gc,H,⟨hbx,bc⟩,hcf5,g6,g5⟩ :=hS
 have hx1:=hx.fx
 have hBX:Bxx bx gc W:=⟨hbx,bc⟩
 refine ⟨_,rfl,?_⟩
 repeat refine wp_seq ?_
 refine rg2 rfl a g c x hx1 W H.hW.c7 H.hW.c4 _ _ ?_
 intro x2 hx2
 refine wp_cond_false (hx2.ev 30 (.bool false) sM) ?_
 refine wp_skip ?_
 show Code.wp _ _ _ _ _
 repeat refine wp_seq ?_
 refine rg3 rfl a g c x2 (hx2.sub sM) W H.hW.c4 _ _ ?_
 intro x3 n3 hx3
 have H3:RS w0 a m p gp cp gs cs gl cl g mo (.slice (some ⟨g,0,none⟩) 1 c) (.slice (some ⟨gf,0,none⟩) 1 cf) 0 (.func (.func 324) #[] #[.pointer (some ⟨bx,0,none⟩)]) 1 (W.drewN n3):=H.below (below_drewN' qR _)
 have C3:Cw p gf (W.drewN n3):=hcf5.below (below_drewN' qR _)
 have X3:Bxx bx gc (W.drewN n3):=hBX.below (below_drewN' qR _)
 generalize W.drewN n3=W3 at H3 C3 X3 ⊢
 clear H hcf5 hBX hx2 hx hx1 hbx bc
 show Code.wp _ _ _ _ _
 repeat refine wp_seq ?_
 refine rg4 rfl a g m gs cs x3 hx3 W3 H3.hW.c0 H3.hM.c1 H3.hC.s.c0 H3.hC.s.c1 H3.hC.s.c2 H3.hF.c0 H3.hW.lt H3.hM.lt H3.hC.s.lt H3.hF.lt _ _ ?_
 intro x4 W4 hx4 b4 l4 d0 d2
 have H4:RS w0 a m p gp cp gs cs gl cl g mo (.slice (some ⟨g,0,none⟩) 1 c) (.slice (some ⟨gf,0,none⟩) 1 cf) 0 (.func (.func 324) #[] #[.pointer (some ⟨bx,0,none⟩)]) 1 W4:=H3.below b4
 have C4:Cw p gf W4:=C3.below b4
 have X4:Bxx bx gc W4:=X3.below b4
 have q4:w0.heap.size≤W3.heap.size:=H3.hb.size
 generalize W3.heap.size=D at hx4 l4 d0 d2 q4
 clear H3 C3 X3 hx3 b4
 show Code.wp _ _ _ _ _
 repeat refine wp_seq ?_
 refine rg5t rfl a g D x4 hx4 W4 H4.hF.c1 d2 _ _ ?_
 intro x5 n5 hx5
 have H5:RS w0 a m p gp cp gs cs gl cl g mo (.slice (some ⟨g,0,none⟩) 1 c) (.slice (some ⟨gf,0,none⟩) 1 cf) 0 (.func (.func 324) #[] #[.pointer (some ⟨bx,0,none⟩)]) 1 (W4.drewN n5):=H4.below (below_drewN' qR _)
 have C5:Cw p gf (W4.drewN n5):=C4.below (below_drewN' qR _)
 have X5:Bxx bx gc (W4.drewN n5):=X4.below (below_drewN' qR _)
 generalize W4.drewN n5=W5 at H5 C5 X5 ⊢
 refine wp_cond_true (hx5.ev 62 (.bool true) sM) ?_
 clear H4 C4 X4 hx4 d0 d2 l4
 repeat refine wp_seq ?_
 refine rg6f rfl a g D _ _ _ x5 (hx5.sub sM) W5 H5.hF.c6 _ _ ?_
 intro x6 hx6
 refine wp_cond_false (hx6.ev 67 (.bool false) sM) ?_
 refine wp_skip ?_
 show Code.wp _ _ _ _ _
 repeat refine wp_seq ?_
 refine rg8b rfl a g bx gc x6 (hx6.sub sM) W5 H5.hF.c6 H5.hF.lt X5.lt X5.c _ _ ?_
 intro x7 W7 hx7 b7
 have H7:RS w0 a m p gp cp gs cs gl cl g mo (.slice (some ⟨g,0,none⟩) 1 c) (.slice (some ⟨gf,0,none⟩) 1 cf) 0 (.func (.func 324) #[] #[.pointer (some ⟨bx,0,none⟩)]) 1 W7:=H5.below b7
 have C7:Cw p gf W7:=C5.below b7
 clear H5 C5 X5 hx5 hx6 b7
 show Code.wp _ _ _ _ _
 repeat (first|refine wp_seq ?_|refine wp_block ?_)
 refine rg11 rfl a g (.bool false) x7 (hx7.sub sM) W7 H7.hW.c7 _ _ ?_
 intro x8 hx8
 refine wp_cond_false (hx8.ev 109 (.bool false) sM) ?_
 repeat (first|refine wp_seq ?_|refine wp_block ?_)
 refine rg12f rfl a g x8 (hx8.sub sM) W7 _ _ ?_
 intro x9 hx9
 refine wp_cond_false (hx9.ev 115 (.bool false) sM) ?_
 repeat (first|refine wp_seq ?_|refine wp_block ?_)
 refine rg9 rfl a g x9 (hx9.sub sM) W7 H7.hF.c1 H7.hF.z1 _ _ ?_
 intro x10 hx10
 show Code.wp _ _ _ _ _
 have H8:=H7.setL 1
 have C8:=C7.set (a:=⟨g,1,none⟩) (Ne.symm g5.2.2) (.int .i64 1)
 repeat (first|refine wp_seq ?_|refine wp_block ?_)
 refine wp_then_self ?_
 refine rg10 rfl a g _ x10 (hx10.sub sM) _ H8.hF.c6 H8.hF.z6 _ _ ?_
 intro x11 hx11
 have H9:=H8.setN .nilFunc
 have C9:=C8.set (a:=⟨g,6,none⟩) (Ne.symm g5.2.2) .nilFunc
 show Code.wp prog (Code.goto 0) _ _ _
 refine wp_goto ?_
 show J 0 _ _
 exact hJ _ _ ⟨hx11.1,hx11.2.1,hx11.2.2 (0,_) sM⟩ ⟨g,c,gf,cf,H9,C9,g6,g5.1⟩
theorem need_t(w:World): Calls prog 159 #[.bool true] w fun e w'=>e=.returned (.tuple #[])∧w=w':=by
 go_enter func159,ntmps159
 go_wp2_with fail
 go_end0
 exact ⟨rfl,rfl⟩
theorem within_1(w:World): Calls prog 161 #[.int .i64 0,.int .i64 1,.int .i64 1] w fun e w'=>e=.returned (.tuple #[])∧w=w':=by
 go_enter func161,ntmps161
 go_wp2_with (first|(go_at_call 159;refine (need_t _).mono ?_;rintro e w9 ⟨rfl,rfl⟩))
 go_wp2_with fail
 go_end0
 exact ⟨rfl,rfl⟩
theorem vpath_0(gp cp gs cs gl cl:Nat)(k1:1≤cs)(k2:1≤cl)(w:World)(h:Cd gp gs gl w): Calls prog 160 #[.agg #[.slice (some ⟨gp,0,none⟩) 1 (cp:Nat),.slice (some ⟨gs,0,none⟩) 1 (cs:Nat),.slice (some ⟨gl,0,none⟩) 1 (cl:Nat),.slice none 0 0],.int .i64 0] w fun e w'=>e=.returned (.agg #[.bool true,.int .i64 0,.int .i64 1])∧Below w.heap.size w w':=by
 go_enter func160,ntmps160
 have lgp:=h.p.lt
 have:gp<w.heap.size+1:=oM
 have:gp<w.heap.size+1+1:=oM
 have:gp<w.heap.size+1+1+1:=oM
 have:gp<w.heap.size+1+1+1+1:=oM
 have:gp<w.heap.size+1+1+1+1+1:=oM
 have:gp<w.heap.size+1+1+1+1+1+1:=oM
 have:gp<w.heap.size+1+1+1+1+1+1+1:=oM
 have lgs:=h.s.lt
 have:gs<w.heap.size+1:=oM
 have:gs<w.heap.size+1+1:=oM
 have:gs<w.heap.size+1+1+1:=oM
 have:gs<w.heap.size+1+1+1+1:=oM
 have:gs<w.heap.size+1+1+1+1+1:=oM
 have:gs<w.heap.size+1+1+1+1+1+1:=oM
 have:gs<w.heap.size+1+1+1+1+1+1+1:=oM
 have lgl:=h.l.lt
 have:gl<w.heap.size+1:=oM
 have:gl<w.heap.size+1+1:=oM
 have:gl<w.heap.size+1+1+1:=oM
 have:gl<w.heap.size+1+1+1+1:=oM
 have:gl<w.heap.size+1+1+1+1+1:=oM
 have:gl<w.heap.size+1+1+1+1+1+1:=oM
 have:gl<w.heap.size+1+1+1+1+1+1+1:=oM
 have dp0:=h.p.c0
 have dp1:=h.p.c1
 have dp2:=h.p.c2
 have ds0:=h.s.c0
 have ds1:=h.s.c1
 have ds2:=h.s.c2
 have dl0:=h.l.c0
 have dl1:=h.l.c1
 have dl2:=h.l.c2
 have dl3:=h.l.c3
 have dl4:=h.l.c4
 have dl5:=h.l.c5
 have dl6:=h.l.c6
 have dl7:=h.l.c7
 have:(1:Int)≤(cs:Int):=oM
 have:(1:Int)≤(cl:Int):=oM
 have:¬(cs:Int)<1:=oM
 have:¬(cl:Int)<1:=oM
 go_wp2_with (first|(go_at_call 159;refine (need_t _).mono ?_;rintro e w9 ⟨rfl,rfl⟩)|(go_at_call 161;refine (within_1 _).mono ?_;rintro e w9 ⟨rfl,rfl⟩)|(refine wp_loop_unr 3 ?_;refine Unr.step ?_;intro U hU)|(refine Unr.step ?_;intro U hU))
 go_wp2_with fail
 try simp only [Exit.inBlock,Exit.then]
 refine bodyPost_ret (v:=.agg #[.bool true,.int .i64 0,.int .i64 1]) (by simp [results,results160,go_sem, *]) rfl ⟨rfl,tq4⟩
theorem caught_idle(p:Addr)(w:World)(hc:w.cell? p=some (.bool true))(hz:w.frozen? p=false):
  CallsD prog 158 #[.pointer (some p)] .returning w fun e u' w'=>e=.returned (.tuple #[])∧u'=.returning∧w'=w.setCell p (.bool true):=by
 refine callsD_of_wpS func158 rfl fun c₀ cs hu=>?_
 apply wpS_seq
 apply wpS_region
 simp [wpOpsS,go_sem,recoverD,hu,ntmps158,Exit.thenS]
 refine wpS_of_wp ?_
 go_wp2
 cases c₀
 simp_all [bodyPostS,results,results158]
theorem sound_0(gp cp gs cs gl cl:Nat)(k1:1≤cs)(k2:1≤cl)(w:World)(h:Cd gp gs gl w): Calls prog 85 #[.agg #[.slice (some ⟨gp,0,none⟩) 1 (cp:Nat),.slice (some ⟨gs,0,none⟩) 1 (cs:Nat),.slice (some ⟨gl,0,none⟩) 1 (cl:Nat),.slice none 0 0]] w fun e w'=>e=.returned (.bool true)∧Below w.heap.size w w':=by
 have:∀(fn:Fn) (first cap:Array Value) (w:World),(Instr.makeFunc fn first cap).run prog w=.ok (.func fn first cap) w:=fun _ _ _ _=>rfl
 go_enter_defers func85,ntmps85
 have lgp:=h.p.lt
 have:gp<w.heap.size+1:=oM
 have:gp<w.heap.size+1+1:=oM
 have:gp<w.heap.size+1+1+1:=oM
 have:gp<w.heap.size+1+1+1+1:=oM
 have:gp<w.heap.size+1+1+1+1+1:=oM
 have:gp<w.heap.size+1+1+1+1+1+1:=oM
 have:gp<w.heap.size+1+1+1+1+1+1+1:=oM
 have lgs:=h.s.lt
 have:gs<w.heap.size+1:=oM
 have:gs<w.heap.size+1+1:=oM
 have:gs<w.heap.size+1+1+1:=oM
 have:gs<w.heap.size+1+1+1+1:=oM
 have:gs<w.heap.size+1+1+1+1+1:=oM
 have:gs<w.heap.size+1+1+1+1+1+1:=oM
 have:gs<w.heap.size+1+1+1+1+1+1+1:=oM
 have lgl:=h.l.lt
 have:gl<w.heap.size+1:=oM
 have:gl<w.heap.size+1+1:=oM
 have:gl<w.heap.size+1+1+1:=oM
 have:gl<w.heap.size+1+1+1+1:=oM
 have:gl<w.heap.size+1+1+1+1+1:=oM
 have:gl<w.heap.size+1+1+1+1+1+1:=oM
 have:gl<w.heap.size+1+1+1+1+1+1+1:=oM
 have dp0:=h.p.c0
 have dp1:=h.p.c1
 have dp2:=h.p.c2
 have ds0:=h.s.c0
 have ds1:=h.s.c1
 have ds2:=h.s.c2
 have dl0:=h.l.c0
 have dl1:=h.l.c1
 have dl2:=h.l.c2
 have dl3:=h.l.c3
 have dl4:=h.l.c4
 have dl5:=h.l.c5
 have dl6:=h.l.c6
 have dl7:=h.l.c7
 have:(1:Int)≤(cs:Int):=oM
 have:(1:Int)≤(cl:Int):=oM
 have:¬(cs:Int)<1:=oM
 have:¬(cl:Int)<1:=oM
 go_wp2_with (first|(go_at_call 159;refine (need_t _).mono ?_;rintro e w9 ⟨rfl,rfl⟩)|(go_at_call 161;refine (within_1 _).mono ?_;rintro e w9 ⟨rfl,rfl⟩)|(refine wp_loop_unr 3 ?_;refine Unr.step ?_;intro U hU)|(refine Unr.step ?_;intro U hU))
 refine (vpath_0 gp cp gs cs gl cl k1 k2 _ (h.below tq4)).mono ?_;rintro e w1 ⟨rfl,hb1⟩
 have s1:=hb1.size;try simp at s1
 try (have:w.heap.size<w1.heap.size:=oM)
 try (have:w.heap.size<w1.heap.size+1:=oM)
 try (have:w.heap.size<w1.heap.size+1+1:=oM)
 try (have:w.heap.size+1<w1.heap.size:=oM)
 try (have:w.heap.size+1<w1.heap.size+1:=oM)
 try (have:w.heap.size+1<w1.heap.size+1+1:=oM)
 try (have e1_0_0_0:=hb1.cl w.heap.size 0;simp [go_sem, *] at e1_0_0_0)
 try (have f1_0_0_0:=hb1.fz w.heap.size 0;simp [go_sem, *] at f1_0_0_0)
 try (have e1_0_0_1:=hb1.cl w.heap.size 1;simp [go_sem, *] at e1_0_0_1)
 try (have f1_0_0_1:=hb1.fz w.heap.size 1;simp [go_sem, *] at f1_0_0_1)
 try (have e1_0_0_2:=hb1.cl w.heap.size 2;simp [go_sem, *] at e1_0_0_2)
 try (have f1_0_0_2:=hb1.fz w.heap.size 2;simp [go_sem, *] at f1_0_0_2)
 try (have e1_0_0_3:=hb1.cl w.heap.size 3;simp [go_sem, *] at e1_0_0_3)
 try (have f1_0_0_3:=hb1.fz w.heap.size 3;simp [go_sem, *] at f1_0_0_3)
 try (have e1_0_1_0:=hb1.cl (w.heap.size+1) 0;simp [go_sem, *] at e1_0_1_0)
 try (have f1_0_1_0:=hb1.fz (w.heap.size+1) 0;simp [go_sem, *] at f1_0_1_0)
 have HB1:=bel_step (w:=w) tq4 hb1
 clear hb1
 have h1:=h.below HB1.out
 have lxgp:=h1.p.lt
 have:gp<w1.heap.size+1:=oM
 have:gp<w1.heap.size+1+1:=oM
 have:gp<w1.heap.size+1+1+1:=oM
 have:gp<w1.heap.size+1+1+1+1:=oM
 have:gp<w1.heap.size+1+1+1+1+1:=oM
 have:gp<w1.heap.size+1+1+1+1+1+1:=oM
 have:gp<w1.heap.size+1+1+1+1+1+1+1:=oM
 have lxgs:=h1.s.lt
 have:gs<w1.heap.size+1:=oM
 have:gs<w1.heap.size+1+1:=oM
 have:gs<w1.heap.size+1+1+1:=oM
 have:gs<w1.heap.size+1+1+1+1:=oM
 have:gs<w1.heap.size+1+1+1+1+1:=oM
 have:gs<w1.heap.size+1+1+1+1+1+1:=oM
 have:gs<w1.heap.size+1+1+1+1+1+1+1:=oM
 have lxgl:=h1.l.lt
 have:gl<w1.heap.size+1:=oM
 have:gl<w1.heap.size+1+1:=oM
 have:gl<w1.heap.size+1+1+1:=oM
 have:gl<w1.heap.size+1+1+1+1:=oM
 have:gl<w1.heap.size+1+1+1+1+1:=oM
 have:gl<w1.heap.size+1+1+1+1+1+1:=oM
 have:gl<w1.heap.size+1+1+1+1+1+1+1:=oM
 have dxp0:=h1.p.c0
 have dxp1:=h1.p.c1
 have dxp2:=h1.p.c2
 have dxs0:=h1.s.c0
 have dxs1:=h1.s.c1
 have dxs2:=h1.s.c2
 have dxl0:=h1.l.c0
 have dxl1:=h1.l.c1
 have dxl2:=h1.l.c2
 have dxl3:=h1.l.c3
 have dxl4:=h1.l.c4
 have dxl5:=h1.l.c5
 have dxl6:=h1.l.c6
 have dxl7:=h1.l.c7
 go_wp2_with (first|(go_at_call 159;refine (need_t _).mono ?_;rintro e w9 ⟨rfl,rfl⟩)|(go_at_call 161;refine (within_1 _).mono ?_;rintro e w9 ⟨rfl,rfl⟩)|(refine wp_loop_unr 3 ?_;refine Unr.step ?_;intro U hU)|(refine Unr.step ?_;intro U hU))
 refine leaves_cons (f:=158) (args:=#[.pointer (some ⟨w.heap.size+1,0,none⟩)]) sM (by simp [go_sem]) ?_
 refine (caught_idle ⟨w.heap.size+1,0,none⟩ _ (by simp [go_sem, *]) (by simp [go_sem, *])).mono ?_
 rintro e u' w'' ⟨rfl,rfl,rfl⟩
 simp [Leaves,settle,results,results85,go_sem, *]
 repeat' (first|refine Below.setCell ?_ tq3 _|refine Below.alloc ?_ tq3 _|refine below_drewN' ?_ _|refine Below.drew ?_|exact Hid.out aM|exact qR)
end
section
open Go.RowKit
attribute [local go_sem] run_store_nilFunc run_store_func eqn_nil eqn_func
set_option maxHeartbeats 4000000 in
theorem rg7{c:Code}(hc:regionOf (scopeBody f163) 7=some c)(w0:World)(a m p gp cp gs cs gl cl g c1:Nat)(mo:Int)(n L:Nat)(T V:ByteArray)(hD:Doc T V n L)(hX0:Ix w0 p T n)(x:Act)(hx:Fx [(0,.pointer (some ⟨a,0,none⟩)),(4,.pointer (some ⟨g,0,none⟩))] x)(W:World)(H:RS w0 a m p gp cp gs cs gl cl g mo (.slice (some ⟨g,0,none⟩) 1 c1) (.slice none 0 0) 0 .nilFunc 0 W)(K:Act→World→Prop)(Q:Exit→Act→World→Prop)(hk:∀x' W' bx gc,Fx [(0,.pointer (some ⟨a,0,none⟩)),(4,.pointer (some ⟨g,0,none⟩))] x'→RS w0 a m p gp cp gs cs gl cl g mo (.slice (some ⟨g,0,none⟩) 1 c1) (.slice none 0 0) 0 (.func (.func 324) #[] #[.pointer (some ⟨bx,0,none⟩)]) 0 W'→w0.heap.size≤bx→bx≠a→bx≠m→bx≠g→bx≠gp→bx≠gs→bx≠gl→bx<W'.heap.size→W'.cell? ⟨bx,0,none⟩=some (.slice (some ⟨gc,0,none⟩) 1 1)→W'.frozen? ⟨bx,0,none⟩=false→Cw p gc W'→K x' W'): c.wp prog (Exit.then K Q) x W:=by
 injection (show some c=some _ from hc.symm.trans rfl) with hc
 subst hc
 have kv0:=hx.at 0 (.pointer (some ⟨a,0,none⟩)) sM
 have kv4:=hx.at 4 (.pointer (some ⟨g,0,none⟩)) sM
 have e:=hx.lit177
 rw [e];simp only [kv0,kv4]
 clear hx kv0 kv4
 clear e
 have gen:=qG x
 obtain ⟨u,hu⟩ :=gen
 simp only [hu]
 clear hu x
 have HK:=hid hk
 clear hk
 have hX:=hX0
 have alt0:=H.hW.lt
 have alt1:a<W.heap.size+1:=oM
 have alt2:a<W.heap.size+1+1:=oM
 have mlt0:=H.hM.lt
 have mlt1:m<W.heap.size+1:=oM
 have mlt2:m<W.heap.size+1+1:=oM
 have gllt0:=H.hC.l.lt
 have gllt1:gl<W.heap.size+1:=oM
 have gllt2:gl<W.heap.size+1+1:=oM
 have glt0:=H.hF.lt
 have glt1:g<W.heap.size+1:=oM
 have glt2:g<W.heap.size+1+1:=oM
 have hX:=hX.below H.hb
 have HX0:Hid (∃nx,RS w0 a m p gp cp gs cs gl cl g mo (.slice (some ⟨g,0,none⟩) 1 c1) (.slice none 0 0) 0 nx 0 W):=hid ⟨_,H⟩
 go_region_held3 (fun w'=>w'.cell? ⟨a,0,none⟩=some (.pointer (some ⟨m,0,none⟩))∧w'.cell? ⟨m,2,none⟩=some (.slice (some ⟨gl,0,none⟩) 1 cl)∧w'.cell? ⟨g,0,none⟩=some (.int .i64 0)∧w'.cell? ⟨g,1,none⟩=some (.int .i64 0)∧w'.cell? ⟨g,4,none⟩=some (.pointer (some ⟨p,0,none⟩))∧w'.cell? ⟨g,5,none⟩=some (.int .i64 (-1))∧w'.cell? ⟨gl,0,none⟩=some (.int .i64 2)∧w'.cell? ⟨gl,1,none⟩=some (.string ⟨#[]⟩)∧w'.cell? ⟨gl,2,none⟩=some (.int .i64 0)∧w'.cell? ⟨gl,3,none⟩=some (.int .i64 0)∧w'.cell? ⟨gl,4,none⟩=some (.int .i64 0)∧w'.cell? ⟨gl,5,none⟩=some (.bool false)∧w'.cell? ⟨gl,6,none⟩=some (.bool false)∧w'.cell? ⟨gl,7,none⟩=some (.int .i64 0)∧Hid (∃nx,RS w0 a m p gp cp gs cs gl cl g mo (.slice (some ⟨g,0,none⟩) 1 c1) (.slice none 0 0) 0 nx 0 w')) (first|exact told_held (by repeat' (first|assumption|refine rx_drew ?_|refine rx_setN ?_ _|refine rx_alloc ?_ _))) (first|(go_at_call 225;refine (told_0 p n L T V hD a _ (hX.below tq4)).mono ?_;rintro e w9 ⟨w2,rfl,rfl,hb⟩;have H2:=hid (H.below (Hid.out (bel_step (w:=W) tq4 hb)));have HX2:Hid (∃nx,RS w0 a m p gp cp gs cs gl cl g mo (.slice (some ⟨g,0,none⟩) 1 c1) (.slice none 0 0) 0 nx 0 w2):=hid ⟨_,H2.out⟩;have y6:=H2.out.hF.c6;have z6:=H2.out.hF.z6;have g2:=H2.out.hF.lt;have g3:g<w2.heap.size+1:=oM;have g4:g<w2.heap.size+1+1:=oM;have s2:W.heap.size≤w2.heap.size:=(by have:=hb.size;simp at this;omega);clear hb))
 have H9:=(H2.out.setN (.func (.func 324) #[] #[.pointer (some ⟨w2.heap.size+1,0,none⟩)])).below ((qR.alloc qL (.cells #[.pointer (some ⟨p,0,none⟩),.int .i64 1] 128)).alloc sM (.cells #[.slice (some ⟨w2.heap.size,0,none⟩) 1 1] 122))
 have qa:w2.heap.size+1≠a:=by have:=H2.out.hW.lt;omega
 have qm:w2.heap.size+1≠m:=by have:=H2.out.hM.lt;omega
 have qg:w2.heap.size+1≠g:=by have:=H2.out.hF.lt;omega
 have qgp:w2.heap.size+1≠gp:=by have:=H2.out.hC.p.lt;omega
 have qgs:w2.heap.size+1≠gs:=by have:=H2.out.hC.s.lt;omega
 have qgl:w2.heap.size+1≠gl:=by have:=H2.out.hC.l.lt;omega
 have q0:w0.heap.size≤w2.heap.size+1:=by have:=H2.out.hb.size;omega
 have hbx:w2.heap.size+1<(((w2.setCell ⟨g,6,none⟩ (.func (.func 324) #[] #[.pointer (some ⟨w2.heap.size+1,0,none⟩)])).alloc (.cells #[.pointer (some ⟨p,0,none⟩),.int .i64 1] 128)).alloc (.cells #[.slice (some ⟨w2.heap.size,0,none⟩) 1 1] 122)).heap.size:=by simp [World.setCell]
 have bc:(((w2.setCell ⟨g,6,none⟩ (.func (.func 324) #[] #[.pointer (some ⟨w2.heap.size+1,0,none⟩)])).alloc (.cells #[.pointer (some ⟨p,0,none⟩),.int .i64 1] 128)).alloc (.cells #[.slice (some ⟨w2.heap.size,0,none⟩) 1 1] 122)).cell? ⟨w2.heap.size+1,0,none⟩=some (.slice (some ⟨w2.heap.size,0,none⟩) 1 1):=by simp [go_sem]
 have bz:(((w2.setCell ⟨g,6,none⟩ (.func (.func 324) #[] #[.pointer (some ⟨w2.heap.size+1,0,none⟩)])).alloc (.cells #[.pointer (some ⟨p,0,none⟩),.int .i64 1] 128)).alloc (.cells #[.slice (some ⟨w2.heap.size,0,none⟩) 1 1] 122)).frozen? ⟨w2.heap.size+1,0,none⟩=false:=by simp [go_sem]
 have hcw:Hid (Cw p w2.heap.size (((w2.setCell ⟨g,6,none⟩ (.func (.func 324) #[] #[.pointer (some ⟨w2.heap.size+1,0,none⟩)])).alloc (.cells #[.pointer (some ⟨p,0,none⟩),.int .i64 1] 128)).alloc (.cells #[.slice (some ⟨w2.heap.size,0,none⟩) 1 1] 122))):=hid ⟨by simp [World.setCell];omega,by simp [go_sem],by simp [go_sem]⟩
 clear H HX0 H2 y6 z6 g2 g3 g4 s2
 generalize hWg:(((w2.setCell ⟨g,6,none⟩ (.func (.func 324) #[] #[.pointer (some ⟨w2.heap.size+1,0,none⟩)])).alloc (.cells #[.pointer (some ⟨p,0,none⟩),.int .i64 1] 128)).alloc (.cells #[.slice (some ⟨w2.heap.size,0,none⟩) 1 1] 122))=W2 at H9 hbx bc bz hcw ⊢
 clear hWg
 generalize hBX:w2.heap.size+1=bx at H9 qa qm qg qgp qgs qgl q0 hbx bc bz ⊢
 generalize hGC:w2.heap.size=gc at hcw bc ⊢
 clear hBX hGC
 exact HK.out _ _ bx gc (Fx.cons (Fx.cons (Fx.mk0 _ rfl) 4 _ rfl) 0 _ rfl) H9 q0 qa qm qg qgp qgs qgl hbx bc bz hcw.out
end
end Go.Proofs.YtjcioljdlfdnbaaGreatDoor
