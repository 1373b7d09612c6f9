/- Part 33: lemmas for TopNumber; no conditions. -/
import Derived.Test.YtjcioljdlfdnbaaGreatDoorH25
set_option linter.unusedVariables false
set_option linter.unusedSimpArgs false
set_option maxRecDepth 100000
set_option maxHeartbeats 2000000
open Go.Proofs.Tryz
namespace Go.Proofs.YtjcioljdlfdnbaaGreatDoor
namespace Nn
open Go.RowKit
def PathP (b0 m:Nat) (sg n:Int) (Q c:Nat) (w':World):Prop:=∃gp cp gs cs gl cl gi ci gw cw,MK b0 m 178 #[.slice (some ⟨gp,0,none⟩) 1 cp,.slice (some ⟨gs,0,none⟩) 1 cs,.slice (some ⟨gl,0,none⟩) 1 cl,.slice (some ⟨gi,0,none⟩) 2 ci,.slice (some ⟨gw,0,none⟩) 2 cw] [⟨3,290,7,.slice (some ⟨gi,0,none⟩) 2 ci,2,[.int .i64 1,.int .i64 1,.int .i64 sg,.int .i64 2,.int .i64 n,.string ⟨#[]⟩,.int .i64 0,.int .i64 5,.int .i64 0,.int .i64 0,.int .i64 0,.int .i64 0,.string ⟨#[]⟩,.int .i64 0]⟩,⟨4,118,2,.slice (some ⟨gw,0,none⟩) 2 cw,2,[.bool true,.slice (some ⟨Q,0,none⟩) 1 c,.bool false,.slice none 0 0]⟩,⟨0,272,3,.slice (some ⟨gp,0,none⟩) 1 cp,1,[.bool true,.int .i64 0,.int .i64 1]⟩,⟨1,275,3,.slice (some ⟨gs,0,none⟩) 1 cs,1,[.bool false,.int .i64 0,.int .i64 1]⟩,⟨2,280,8,.slice (some ⟨gl,0,none⟩) 1 cl,1,[.int .i64 4,.string ⟨#[]⟩,.int .i64 0,.int .i64 0,.int .i64 0,.bool false,.bool false,.int .i64 0]⟩] w'
theorem cpath_f(b0 m wa q s X c:Nat)(i:Int)(la:Bool)(lk ln:Int)(ra:Bool)(rk rn sg n:Int)(hE:ExprQ i la lk ln ra rk rn sg n)(w:World)(hb0:b0≤m)(hm:w.heap[m]?=some (.cells #[.slice none 0 0,.slice none 0 0,.slice none 0 0,.slice none 0 0,.slice (some ⟨wa,0,none⟩) 1 1] 178 (0,0)))(hw:w.ownsRow b0 118 2 (.slice (some ⟨wa,0,none⟩) 1 1) 1 [.bool true,.slice (some ⟨q,0,none⟩) 1 c])(hq:Bk q [.bool false,.slice (some ⟨s,0,none⟩) 1 1] w)(hs:Bk s [.int .i64 4,.string ⟨#[]⟩,.int .i64 0,.int .i64 0,.int .i64 0,.int .i64 0,.bool false,.bool false,.pointer (some ⟨X,0,none⟩)] w)(hX:Bk X (xvL i la lk ln ra rk rn) w)(hXb:X<b0): Calls prog 84 #[.pointer (some ⟨m,0,none⟩),.agg #[.bool true,.slice (some ⟨q,0,none⟩) 1 (c:Nat)]] w fun e w'=>e=.returned (.tuple #[])∧PathP b0 m sg n q c w'∧Below b0 w w':=by
 have ml:=(Array.getElem?_eq_some_iff.1 hm).1
 have hbw:b0≤w.heap.size:=oM
 have HX:=hid hX
 have HW:=hid hw
 have HE:=hid hE
 have HM0:=hid hm
 clear hX hw hE
 have ql:=hq.lt
 have ql1:q<w.heap.size+1:=oM
 have ql2:q<w.heap.size+1+1:=oM
 have ql3:q<w.heap.size+1+1+1:=oM
 have ql4:q<w.heap.size+1+1+1+1:=oM
 have ql5:q<w.heap.size+1+1+1+1+1:=oM
 have sl:=hs.lt
 have sl1:s<w.heap.size+1:=oM
 have sl2:s<w.heap.size+1+1:=oM
 have sl3:s<w.heap.size+1+1+1:=oM
 have sl4:s<w.heap.size+1+1+1+1:=oM
 have sl5:s<w.heap.size+1+1+1+1+1:=oM
 have q0:=hq.c 0 _ rfl
 have q1:=hq.c 1 _ rfl
 have p0:=hs.c 0 _ rfl
 have p1:=hs.c 1 _ rfl
 have p2:=hs.c 2 _ rfl
 have p3:=hs.c 3 _ rfl
 have p4:=hs.c 4 _ rfl
 have p5:=hs.c 5 _ rfl
 have p6:=hs.c 6 _ rfl
 have p7:=hs.c 7 _ rfl
 have p8:=hs.c 8 _ rfl
 have m0:w.cell? ⟨m,0,none⟩=some (.slice none 0 0):=by simp [World.cell?,hm]
 have m1:w.cell? ⟨m,1,none⟩=some (.slice none 0 0):=by simp [World.cell?,hm]
 have m2:w.cell? ⟨m,2,none⟩=some (.slice none 0 0):=by simp [World.cell?,hm]
 have m3:w.cell? ⟨m,3,none⟩=some (.slice none 0 0):=by simp [World.cell?,hm]
 have m4:w.cell? ⟨m,4,none⟩=some (.slice (some ⟨wa,0,none⟩) 1 1):=by simp [World.cell?,hm]
 have n0:w.frozen? ⟨m,0,none⟩=false:=by simp [World.frozen?,hm]
 have n1:w.frozen? ⟨m,1,none⟩=false:=by simp [World.frozen?,hm]
 have n2:w.frozen? ⟨m,2,none⟩=false:=by simp [World.frozen?,hm]
 have hm1:=hid hm
 clear hm hq hs
 have ml1:m<w.heap.size+1:=oM
 have ml2:m<w.heap.size+1+1:=oM
 have ml3:m<w.heap.size+1+1+1:=oM
 have ml4:m<w.heap.size+1+1+1+1:=oM
 have ml5:m<w.heap.size+1+1+1+1+1:=oM
 go_enter func84,ntmps84
 go_wp2_with (first|(refine wp_loop_unr 3 ?_;refine Unr.step ?_;intro U hU)|(refine Unr.step ?_;intro U hU))
 go_region
 go_wp2_with (first|(refine wp_loop_unr 3 ?_;refine Unr.step ?_;intro U hU)|(refine Unr.step ?_;intro U hU))
 go_region
 go_wp2_with (first|(refine wp_loop_unr 3 ?_;refine Unr.step ?_;intro U hU)|(refine Unr.step ?_;intro U hU))
 have HC:CP w m wa X (.slice none 0 0) (.slice none 0 0) (.slice none 0 0) 0 0 ((((((w.alloc (Obj.cells #[.bool true,.slice (some ⟨q,0,none⟩) 1 c] 118)).alloc (Obj.cells #[.bool true,.int .i64 0,.int .i64 0] 272)).alloc (Obj.cells #[.bool false,.slice (some ⟨s,0,none⟩) 1 1] 269)).alloc (Obj.cells #[.bool false,.int .i64 0,.int .i64 0] 275)).alloc (Obj.cells #[.int .i64 4,.string ⟨#[]⟩,.int .i64 0,.int .i64 0,.int .i64 0,.int .i64 0,.bool false,.bool false,.pointer (some ⟨X,0,none⟩)] 278)).drew.drew):=by
  have hbl:Below w.heap.size w ((((((w.alloc (Obj.cells #[.bool true,.slice (some ⟨q,0,none⟩) 1 c] 118)).alloc (Obj.cells #[.bool true,.int .i64 0,.int .i64 0] 272)).alloc (Obj.cells #[.bool false,.slice (some ⟨s,0,none⟩) 1 1] 269)).alloc (Obj.cells #[.bool false,.int .i64 0,.int .i64 0] 275)).alloc (Obj.cells #[.int .i64 4,.string ⟨#[]⟩,.int .i64 0,.int .i64 0,.int .i64 0,.int .i64 0,.bool false,.bool false,.pointer (some ⟨X,0,none⟩)] 278)).drew.drew):=tq4
  refine ⟨Below.gr hbl,ml,by simp,(hbl.block m ml).trans hm1.out,?_,?_,?_⟩
  all_goals (refine ⟨by simp,fun j v hv=>?_,fun j hj=>?_⟩)
  ·rcases j with _|_|_|j <;> first|(simp at hv;done)|(simp at hv;subst hv;simp [go_sem,ml1])|(simp at hv)
  ·rcases j with _|_|_|j <;> first|(simp at hj;done)|(simp [go_sem])|(simp at hj;omega)
  ·rcases j with _|_|_|j <;> first|(simp at hv;done)|(simp at hv;subst hv;simp [go_sem,ml1])|(simp at hv)
  ·rcases j with _|_|_|j <;> first|(simp at hj;done)|(simp [go_sem])|(simp at hj;omega)
  ·rcases j with _|_|_|_|_|_|_|_|_|j <;> first|(simp at hv;done)|(simp at hv;subst hv;simp [go_sem,ml1])|(simp at hv)
  ·rcases j with _|_|_|_|_|_|_|_|_|j <;> first|(simp at hj;done)|(simp [go_sem])|(simp at hj;omega)
 clear q0 q1 p0 p1 p2 p3 p4 p5 p6 p7 p8 m0 m1 m2 m3 m4 n0 n1 n2 hm1
 clear ml1 ql1 sl1
 clear ml2 ql2 sl2
 clear ml3 ql3 sl3
 clear ml4 ql4 sl4
 clear ml5 ql5 sl5
 generalize hW0:(((((w.alloc (Obj.cells #[.bool true,.slice (some ⟨q,0,none⟩) 1 c] 118)).alloc (Obj.cells #[.bool true,.int .i64 0,.int .i64 0] 272)).alloc (Obj.cells #[.bool false,.slice (some ⟨s,0,none⟩) 1 1] 269)).alloc (Obj.cells #[.bool false,.int .i64 0,.int .i64 0] 275)).alloc (Obj.cells #[.int .i64 4,.string ⟨#[]⟩,.int .i64 0,.int .i64 0,.int .i64 0,.int .i64 0,.bool false,.bool false,.pointer (some ⟨X,0,none⟩)] 278)).drew.drew=W at HC ⊢
 clear hW0
 clear ql sl
 have wl:=HC.wl
 have m0:=HC.cell 0 _ rfl
 have m1:=HC.cell 1 _ rfl
 have m2:=HC.cell 2 _ rfl
 have m3:=HC.cell 3 _ rfl
 have m4:=HC.cell 4 _ rfl
 have n0:=HC.fz 0
 have n1:=HC.fz 1
 have n2:=HC.fz 2
 have x0:=HC.x.c 0 _ rfl
 have x1:=HC.x.c 1 _ rfl
 have x2:=HC.x.c 2 _ rfl
 have xf:=HC.x.z 2 sM
 have g0:=HC.g.c 0 _ rfl
 have g1:=HC.g.c 1 _ rfl
 have g2:=HC.g.c 2 _ rfl
 have gf:=HC.g.z 2 sM
 have y0:=HC.y.c 0 _ rfl
 have y1:=HC.y.c 1 _ rfl
 have y2:=HC.y.c 2 _ rfl
 have y3:=HC.y.c 3 _ rfl
 have y4:=HC.y.c 4 _ rfl
 have y5:=HC.y.c 5 _ rfl
 have y6:=HC.y.c 6 _ rfl
 have y7:=HC.y.c 7 _ rfl
 have y8:=HC.y.c 8 _ rfl
 have ml0:m<W.heap.size:=oM
 have b10:w.heap.size+1<W.heap.size:=oM
 have b30:w.heap.size+3<W.heap.size:=oM
 have b40:w.heap.size+4<W.heap.size:=oM
 have ml1:m<W.heap.size+1:=oM
 have b11:w.heap.size+1<W.heap.size+1:=oM
 have b31:w.heap.size+3<W.heap.size+1:=oM
 have b41:w.heap.size+4<W.heap.size+1:=oM
 have ml2:m<W.heap.size+1+1:=oM
 have b12:w.heap.size+1<W.heap.size+1+1:=oM
 have b32:w.heap.size+3<W.heap.size+1+1:=oM
 have b42:w.heap.size+4<W.heap.size+1+1:=oM
 have ml3:m<W.heap.size+1+1+1:=oM
 have b13:w.heap.size+1<W.heap.size+1+1+1:=oM
 have b33:w.heap.size+3<W.heap.size+1+1+1:=oM
 have b43:w.heap.size+4<W.heap.size+1+1+1:=oM
 have hs1:∀(W1:World) (hW:Below W.heap.size W W1),Calls prog 155 #[.agg #[.int .i64 4,.string ⟨#[]⟩,.int .i64 0,.int .i64 0,.int .i64 0,.int .i64 0,.bool false,.bool false,.pointer (some ⟨X,0,none⟩)]] W1 fun e w'=>e=.returned (.agg #[.int .i64 4,.string ⟨#[]⟩,.int .i64 0,.int .i64 0,.int .i64 0,.bool false,.bool false,.int .i64 0])∧Hid (Below W.heap.size W w')∧m<w'.heap.size∧w'.cell? ⟨m,2,none⟩=some (.slice none 0 0)∧w'.frozen? ⟨m,2,none⟩=false:=fun W1 hW=>(csel_f X W1).mono fun e w' ⟨h1,h2⟩ =>have hb:=hW.trans (h2.mono hW.size);⟨h1,hid hb,Nat.lt_of_lt_of_le ml0 hb.size,(hb.cell (p:=⟨m,2,none⟩) ml0).trans m2,(hb.frozen (p:=⟨m,2,none⟩) ml0).trans n2⟩
 obtain ⟨i0,hi0,hz0,hs0,hb0_⟩ :=info_parts kinfo280
 apply wp_cut3 (fun gl cl w1 W'=>CP w m wa X (.slice none 0 0) (.slice none 0 0) (.slice (some ⟨gl,0,none⟩) 1 cl) 0 0 W'∧Rw w.heap.size gl 280 8 1 cl [.int .i64 4,.string ⟨#[]⟩,.int .i64 0,.int .i64 0,.int .i64 0,.bool false,.bool false,.int .i64 0] W'∧w.heap.size+5≤gl)
 ·go_region_law ((first|(go_simp;go_at_call 155;refine (hs1 _ (by first|exact qR|exact qR.drew)).mono ?_;rintro e w1 ⟨rfl,hb,lm,a2,c2⟩)|(refine step_push rfl _ _ 75 rfl 280 i0 _ 8 64 underlying75 hi0 hz0 hs0 hb0_ rfl oM (Acc.nil qR 280 8) rfl rfl rfl rfl rfl oM oM ?_;intro gl cl w3 hA;have xa:=(hA.bel.cell (p:=⟨m,2,none⟩) lm).trans a2;have xb:=(hA.bel.frozen (p:=⟨m,2,none⟩) lm).trans c2;have HA:=hid hA;clear hA)))
  all_goals
   have hr:=HA.out.row
   have hc2:=((HC.below hb.out).below HA.out.bel).setM2 (.slice (some ⟨gl,0,none⟩) 1 cl)
   have hlt:=hr.1
   have hbs:=hb.out.size
   have hne:m≠gl:=oM
   have hcl:Rw w.heap.size gl 280 8 1 cl [.int .i64 4,.string ⟨#[]⟩,.int .i64 0,.int .i64 0,.int .i64 0,.bool false,.bool false,.int .i64 0] w3:=(Rw.mk HA.out.own:Rw w1.heap.size gl 280 8 1 cl _ w3).mono oM
   exact ⟨gl,cl,w1,rfl,hc2,hcl.set hne _,by omega⟩
 rintro gl cl w1 W ⟨HC1,HL,hgl⟩
 clear hs1
 clear m0 m1 m2 m3 m4 n0 n1 n2 x0 x1 x2 xf g0 g1 g2 gf y0 y1 y2 y3 y4 y5 y6 y7 y8 HC hi0 hz0 hs0 hb0_ i0
 have HC:=HC1
 clear HC1
 clear wl ml0 b10 b30 b40 ml1 b11 b31 b41 ml2 b12 b32 b42 ml3 b13 b33 b43
 have wl:=HC.wl
 have m0:=HC.cell 0 _ rfl
 have m1:=HC.cell 1 _ rfl
 have m2:=HC.cell 2 _ rfl
 have m3:=HC.cell 3 _ rfl
 have m4:=HC.cell 4 _ rfl
 have n0:=HC.fz 0
 have n1:=HC.fz 1
 have n2:=HC.fz 2
 have x0:=HC.x.c 0 _ rfl
 have x1:=HC.x.c 1 _ rfl
 have x2:=HC.x.c 2 _ rfl
 have xf:=HC.x.z 2 sM
 have g0:=HC.g.c 0 _ rfl
 have g1:=HC.g.c 1 _ rfl
 have g2:=HC.g.c 2 _ rfl
 have gf:=HC.g.z 2 sM
 have y0:=HC.y.c 0 _ rfl
 have y1:=HC.y.c 1 _ rfl
 have y2:=HC.y.c 2 _ rfl
 have y3:=HC.y.c 3 _ rfl
 have y4:=HC.y.c 4 _ rfl
 have y5:=HC.y.c 5 _ rfl
 have y6:=HC.y.c 6 _ rfl
 have y7:=HC.y.c 7 _ rfl
 have y8:=HC.y.c 8 _ rfl
 have ml0:m<W.heap.size:=oM
 have b10:w.heap.size+1<W.heap.size:=oM
 have b30:w.heap.size+3<W.heap.size:=oM
 have b40:w.heap.size+4<W.heap.size:=oM
 have ml1:m<W.heap.size+1:=oM
 have b11:w.heap.size+1<W.heap.size+1:=oM
 have b31:w.heap.size+3<W.heap.size+1:=oM
 have b41:w.heap.size+4<W.heap.size+1:=oM
 have ml2:m<W.heap.size+1+1:=oM
 have b12:w.heap.size+1<W.heap.size+1+1:=oM
 have b32:w.heap.size+3<W.heap.size+1+1:=oM
 have b42:w.heap.size+4<W.heap.size+1+1:=oM
 have ml3:m<W.heap.size+1+1+1:=oM
 have b13:w.heap.size+1<W.heap.size+1+1+1:=oM
 have b33:w.heap.size+3<W.heap.size+1+1+1:=oM
 have b43:w.heap.size+4<W.heap.size+1+1+1:=oM
 obtain ⟨i0,hi0,hz0,hs0,hb0_⟩ :=info_parts kinfo276
 go_wp2_with (first|(at_builtin;(refine wpList_push rfl _ _ 273 rfl 276 i0 _ 1 8 underlying273 hi0 hz0 hs0 hb0_ rfl oM (Acc.nil qR 276 1) rfl rfl sM rfl rfl oM oM ?_;intro gh ch w3 hA;have hr:=hA.row;have HC2:=HC.below hA.bel;have HL2:=HL.below hA.bel;have HF:Rw w.heap.size gh 276 1 1 ch [.pointer (some ⟨X,0,none⟩)] w3:=((Rw.mk hA.own:Rw W.heap.size gh 276 1 1 ch _ w3).mono oM);have:w.heap.size+5≤gh:=(by have:=hr.1;omega);clear hr hA m0 m1 m2 m3 m4 n0 n1 n2 x0 x1 x2 xf g0 g1 g2 gf y0 y1 y2 y3 y4 y5 y6 y7 y8 wl ml0 b10 b30 b40 ml1 b11 b31 b41 ml2 b12 b32 b42 ml3 b13 b33 b43 HC HL hi0 hz0 hs0 hb0_ i0;have HC:=HC2;have HL:=HL2;clear HC2 HL2;have wl:=HC.wl;have m0:=HC.cell 0 _ rfl;have m1:=HC.cell 1 _ rfl;have m2:=HC.cell 2 _ rfl;have m3:=HC.cell 3 _ rfl;have m4:=HC.cell 4 _ rfl;have n0:=HC.fz 0;have n1:=HC.fz 1;have n2:=HC.fz 2;have x0:=HC.x.c 0 _ rfl;have x1:=HC.x.c 1 _ rfl;have x2:=HC.x.c 2 _ rfl;have xf:=HC.x.z 2 sM;have g0:=HC.g.c 0 _ rfl;have g1:=HC.g.c 1 _ rfl;have g2:=HC.g.c 2 _ rfl;have gf:=HC.g.z 2 sM;have y0:=HC.y.c 0 _ rfl;have y1:=HC.y.c 1 _ rfl;have y2:=HC.y.c 2 _ rfl;have y3:=HC.y.c 3 _ rfl;have y4:=HC.y.c 4 _ rfl;have y5:=HC.y.c 5 _ rfl;have y6:=HC.y.c 6 _ rfl;have y7:=HC.y.c 7 _ rfl;have y8:=HC.y.c 8 _ rfl;have ml0:m<w3.heap.size:=oM;have b10:w.heap.size+1<w3.heap.size:=oM;have b30:w.heap.size+3<w3.heap.size:=oM;have b40:w.heap.size+4<w3.heap.size:=oM;have ml1:m<w3.heap.size+1:=oM;have b11:w.heap.size+1<w3.heap.size+1:=oM;have b31:w.heap.size+3<w3.heap.size+1:=oM;have b41:w.heap.size+4<w3.heap.size+1:=oM;have ml2:m<w3.heap.size+1+1:=oM;have b12:w.heap.size+1<w3.heap.size+1+1:=oM;have b32:w.heap.size+3<w3.heap.size+1+1:=oM;have b42:w.heap.size+4<w3.heap.size+1+1:=oM;have ml3:m<w3.heap.size+1+1+1:=oM;have b13:w.heap.size+1<w3.heap.size+1+1+1:=oM;have b33:w.heap.size+3<w3.heap.size+1+1+1:=oM;have b43:w.heap.size+4<w3.heap.size+1+1+1:=oM))|(refine wp_loop_unr 3 ?_;refine Unr.step ?_;intro U hU)|(refine Unr.step ?_;intro U hU))
 have HC2:CP w m wa X (.slice none 0 0) (.slice none 0 0) (.slice (some ⟨gl,0,none⟩) 1 cl) 1 0 (w3.setCell ⟨w.heap.size+1+1+1,2,none⟩ (.int .i64 1)):=HC.setG 1
 have HL2:=HL.set (a:=(⟨w.heap.size+1+1+1,2,none⟩:Addr)) (v:=.int .i64 1) (by show w.heap.size+1+1+1≠gl;omega)
 have HF2:=HF.set (a:=(⟨w.heap.size+1+1+1,2,none⟩:Addr)) (v:=.int .i64 1) (by show w.heap.size+1+1+1≠gh;omega)
 clear HC HL HF
 have HC:=HC2
 have HL:=HL2
 have HF:=HF2
 clear HC2 HL2 HF2
 clear m0 m1 m2 m3 m4 n0 n1 n2 x0 x1 x2 xf g0 g1 g2 gf y0 y1 y2 y3 y4 y5 y6 y7 y8 wl ml0 b10 b30 b40 ml1 b11 b31 b41 ml2 b12 b32 b42 ml3 b13 b33 b43
 generalize hWW:w3.setCell ⟨w.heap.size+1+1+1,2,none⟩ (.int .i64 1)=W at HC HL HF ⊢
 clear hWW
 have wl:=HC.wl
 have m0:=HC.cell 0 _ rfl
 have m1:=HC.cell 1 _ rfl
 have m2:=HC.cell 2 _ rfl
 have m3:=HC.cell 3 _ rfl
 have m4:=HC.cell 4 _ rfl
 have n0:=HC.fz 0
 have n1:=HC.fz 1
 have n2:=HC.fz 2
 have x0:=HC.x.c 0 _ rfl
 have x1:=HC.x.c 1 _ rfl
 have x2:=HC.x.c 2 _ rfl
 have xf:=HC.x.z 2 sM
 have g0:=HC.g.c 0 _ rfl
 have g1:=HC.g.c 1 _ rfl
 have g2:=HC.g.c 2 _ rfl
 have gf:=HC.g.z 2 sM
 have y0:=HC.y.c 0 _ rfl
 have y1:=HC.y.c 1 _ rfl
 have y2:=HC.y.c 2 _ rfl
 have y3:=HC.y.c 3 _ rfl
 have y4:=HC.y.c 4 _ rfl
 have y5:=HC.y.c 5 _ rfl
 have y6:=HC.y.c 6 _ rfl
 have y7:=HC.y.c 7 _ rfl
 have y8:=HC.y.c 8 _ rfl
 have ml0:m<W.heap.size:=oM
 have b10:w.heap.size+1<W.heap.size:=oM
 have b30:w.heap.size+3<W.heap.size:=oM
 have b40:w.heap.size+4<W.heap.size:=oM
 have ml1:m<W.heap.size+1:=oM
 have b11:w.heap.size+1<W.heap.size+1:=oM
 have b31:w.heap.size+3<W.heap.size+1:=oM
 have b41:w.heap.size+4<W.heap.size+1:=oM
 have ml2:m<W.heap.size+1+1:=oM
 have b12:w.heap.size+1<W.heap.size+1+1:=oM
 have b32:w.heap.size+3<W.heap.size+1+1:=oM
 have b42:w.heap.size+4<W.heap.size+1+1:=oM
 have ml3:m<W.heap.size+1+1+1:=oM
 have b13:w.heap.size+1<W.heap.size+1+1+1:=oM
 have b33:w.heap.size+3<W.heap.size+1+1+1:=oM
 have b43:w.heap.size+4<W.heap.size+1+1+1:=oM
 obtain ⟨i0,hi0,hz0,hs0,hb0_⟩ :=info_parts kinfo275
 apply wp_cut2 (fun gn cn W'=>CP w m wa X (.slice none 0 0) (.slice (some ⟨gn,0,none⟩) 1 cn) (.slice (some ⟨gl,0,none⟩) 1 cl) 1 0 W'∧Rw w.heap.size gl 280 8 1 cl [.int .i64 4,.string ⟨#[]⟩,.int .i64 0,.int .i64 0,.int .i64 0,.bool false,.bool false,.int .i64 0] W'∧Rw w.heap.size gh 276 1 1 ch [.pointer (some ⟨X,0,none⟩)] W'∧Rw w.heap.size gn 275 3 1 cn [.bool false,.int .i64 0,.int .i64 1] W'∧w.heap.size+5≤gn)
 ·go_region_law ((first|((first|refine step_push rfl _ _ 74 rfl 275 i0 _ 3 24 underlying74 hi0 hz0 hs0 hb0_ rfl oM (Acc.nil qR 275 3) rfl rfl rfl rfl rfl oM oM ?_|refine step_push_d rfl _ _ 74 rfl 275 i0 _ 3 24 underlying74 hi0 hz0 hs0 hb0_ rfl oM (Acc.nil qR 275 3) rfl rfl rfl rfl rfl oM oM ?_);intro gn cn w3 hA;have xa:=(hA.bel.cell (p:=⟨m,1,none⟩) ml0).trans m1;have xb:=(hA.bel.frozen (p:=⟨m,1,none⟩) ml0).trans n1;have HA:=hid hA;clear hA)))
  all_goals
   have hr:=HA.out.row
   have hbl:Below W.heap.size W w3:=(by first|exact HA.out.bel|exact ⟨HA.out.bel.os,HA.out.bel.tape,HA.out.bel.output,HA.out.bel.size,HA.out.bel.block⟩)
   have hlt:W.heap.size≤gn:=hr.1
   have hrow:Rw w.heap.size gn 275 3 1 cn [.bool false,.int .i64 0,.int .i64 1] w3:=(Rw.mk HA.out.own:Rw W.heap.size gn 275 3 1 cn _ w3).mono oM
   exact ⟨gn,cn,rfl,(HC.below hbl).setM1 _,(HL.below hbl).set (by show m≠gl;omega) _,(HF.below hbl).set (by show m≠gh;omega) _,hrow.set (by show m≠gn;omega) _,by omega⟩
 clear HC HL HF m0 m1 m2 m3 m4 n0 n1 n2 x0 x1 x2 xf g0 g1 g2 gf y0 y1 y2 y3 y4 y5 y6 y7 y8 wl ml0 b10 b30 b40 ml1 b11 b31 b41 ml2 b12 b32 b42 ml3 b13 b33 b43
 rintro gs cs W ⟨HC,HL,HF,HG,hgs⟩
 have wl:=HC.wl
 have m0:=HC.cell 0 _ rfl
 have m1:=HC.cell 1 _ rfl
 have m2:=HC.cell 2 _ rfl
 have m3:=HC.cell 3 _ rfl
 have m4:=HC.cell 4 _ rfl
 have n0:=HC.fz 0
 have n1:=HC.fz 1
 have n2:=HC.fz 2
 have x0:=HC.x.c 0 _ rfl
 have x1:=HC.x.c 1 _ rfl
 have x2:=HC.x.c 2 _ rfl
 have xf:=HC.x.z 2 sM
 have g0:=HC.g.c 0 _ rfl
 have g1:=HC.g.c 1 _ rfl
 have g2:=HC.g.c 2 _ rfl
 have gf:=HC.g.z 2 sM
 have y0:=HC.y.c 0 _ rfl
 have y1:=HC.y.c 1 _ rfl
 have y2:=HC.y.c 2 _ rfl
 have y3:=HC.y.c 3 _ rfl
 have y4:=HC.y.c 4 _ rfl
 have y5:=HC.y.c 5 _ rfl
 have y6:=HC.y.c 6 _ rfl
 have y7:=HC.y.c 7 _ rfl
 have y8:=HC.y.c 8 _ rfl
 have ml0:m<W.heap.size:=oM
 have b10:w.heap.size+1<W.heap.size:=oM
 have b30:w.heap.size+3<W.heap.size:=oM
 have b40:w.heap.size+4<W.heap.size:=oM
 have ml1:m<W.heap.size+1:=oM
 have b11:w.heap.size+1<W.heap.size+1:=oM
 have b31:w.heap.size+3<W.heap.size+1:=oM
 have b41:w.heap.size+4<W.heap.size+1:=oM
 have ml2:m<W.heap.size+1+1:=oM
 have b12:w.heap.size+1<W.heap.size+1+1:=oM
 have b32:w.heap.size+3<W.heap.size+1+1:=oM
 have b42:w.heap.size+4<W.heap.size+1+1:=oM
 have ml3:m<W.heap.size+1+1+1:=oM
 have b13:w.heap.size+1<W.heap.size+1+1+1:=oM
 have b33:w.heap.size+3<W.heap.size+1+1+1:=oM
 have b43:w.heap.size+4<W.heap.size+1+1+1:=oM
 go_wp2_with (first|(refine wp_loop_unr 3 ?_;refine Unr.step ?_;intro U hU)|(refine Unr.step ?_;intro U hU))
 have HC2:CP w m wa X (.slice none 0 0) (.slice (some ⟨gs,0,none⟩) 1 cs) (.slice (some ⟨gl,0,none⟩) 1 cl) 1 1 (W.setCell ⟨w.heap.size+1,2,none⟩ (.int .i64 1)):=HC.setX 1
 have HL2:=HL.set (a:=(⟨w.heap.size+1,2,none⟩:Addr)) (v:=.int .i64 1) (by show w.heap.size+1≠gl;omega)
 have HF2:=HF.set (a:=(⟨w.heap.size+1,2,none⟩:Addr)) (v:=.int .i64 1) (by show w.heap.size+1≠gh;omega)
 have HG2:=HG.set (a:=(⟨w.heap.size+1,2,none⟩:Addr)) (v:=.int .i64 1) (by show w.heap.size+1≠gs;omega)
 clear HC HL HF HG
 have HC:=HC2
 have HL:=HL2
 have HF:=HF2
 have HG:=HG2
 clear HC2 HL2 HF2 HG2
 clear m0 m1 m2 m3 m4 n0 n1 n2 x0 x1 x2 xf g0 g1 g2 gf y0 y1 y2 y3 y4 y5 y6 y7 y8 wl ml0 b10 b30 b40 ml1 b11 b31 b41 ml2 b12 b32 b42 ml3 b13 b33 b43
 generalize hWW:W.setCell ⟨w.heap.size+1,2,none⟩ (.int .i64 1)=W at HC HL HF HG ⊢
 clear hWW
 have wl:=HC.wl
 have m0:=HC.cell 0 _ rfl
 have m1:=HC.cell 1 _ rfl
 have m2:=HC.cell 2 _ rfl
 have m3:=HC.cell 3 _ rfl
 have m4:=HC.cell 4 _ rfl
 have n0:=HC.fz 0
 have n1:=HC.fz 1
 have n2:=HC.fz 2
 have x0:=HC.x.c 0 _ rfl
 have x1:=HC.x.c 1 _ rfl
 have x2:=HC.x.c 2 _ rfl
 have xf:=HC.x.z 2 sM
 have g0:=HC.g.c 0 _ rfl
 have g1:=HC.g.c 1 _ rfl
 have g2:=HC.g.c 2 _ rfl
 have gf:=HC.g.z 2 sM
 have y0:=HC.y.c 0 _ rfl
 have y1:=HC.y.c 1 _ rfl
 have y2:=HC.y.c 2 _ rfl
 have y3:=HC.y.c 3 _ rfl
 have y4:=HC.y.c 4 _ rfl
 have y5:=HC.y.c 5 _ rfl
 have y6:=HC.y.c 6 _ rfl
 have y7:=HC.y.c 7 _ rfl
 have y8:=HC.y.c 8 _ rfl
 have ml0:m<W.heap.size:=oM
 have b10:w.heap.size+1<W.heap.size:=oM
 have b30:w.heap.size+3<W.heap.size:=oM
 have b40:w.heap.size+4<W.heap.size:=oM
 have ml1:m<W.heap.size+1:=oM
 have b11:w.heap.size+1<W.heap.size+1:=oM
 have b31:w.heap.size+3<W.heap.size+1:=oM
 have b41:w.heap.size+4<W.heap.size+1:=oM
 have ml2:m<W.heap.size+1+1:=oM
 have b12:w.heap.size+1<W.heap.size+1+1:=oM
 have b32:w.heap.size+3<W.heap.size+1+1:=oM
 have b42:w.heap.size+4<W.heap.size+1+1:=oM
 have ml3:m<W.heap.size+1+1+1:=oM
 have b13:w.heap.size+1<W.heap.size+1+1+1:=oM
 have b33:w.heap.size+3<W.heap.size+1+1+1:=oM
 have b43:w.heap.size+4<W.heap.size+1+1+1:=oM
 obtain ⟨i0,hi0,hz0,hs0,hb0_⟩ :=info_parts kinfo272
 apply wp_cut2 (fun gn cn W'=>CP w m wa X (.slice (some ⟨gn,0,none⟩) 1 cn) (.slice (some ⟨gs,0,none⟩) 1 cs) (.slice (some ⟨gl,0,none⟩) 1 cl) 1 1 W'∧Rw w.heap.size gl 280 8 1 cl [.int .i64 4,.string ⟨#[]⟩,.int .i64 0,.int .i64 0,.int .i64 0,.bool false,.bool false,.int .i64 0] W'∧Rw w.heap.size gh 276 1 1 ch [.pointer (some ⟨X,0,none⟩)] W'∧Rw w.heap.size gs 275 3 1 cs [.bool false,.int .i64 0,.int .i64 1] W'∧Rw w.heap.size gn 272 3 1 cn [.bool true,.int .i64 0,.int .i64 1] W'∧w.heap.size+5≤gn)
 ·go_region_law ((first|((first|refine step_push rfl _ _ 73 rfl 272 i0 _ 3 24 underlying73 hi0 hz0 hs0 hb0_ rfl oM (Acc.nil qR 272 3) rfl rfl rfl rfl rfl oM oM ?_|refine step_push_d rfl _ _ 73 rfl 272 i0 _ 3 24 underlying73 hi0 hz0 hs0 hb0_ rfl oM (Acc.nil qR 272 3) rfl rfl rfl rfl rfl oM oM ?_);intro gn cn w3 hA;have xa:=(hA.bel.cell (p:=⟨m,0,none⟩) ml0).trans m0;have xb:=(hA.bel.frozen (p:=⟨m,0,none⟩) ml0).trans n0;have HA:=hid hA;clear hA)))
  all_goals
   have hr:=HA.out.row
   have hbl:Below W.heap.size W w3:=(by first|exact HA.out.bel|exact ⟨HA.out.bel.os,HA.out.bel.tape,HA.out.bel.output,HA.out.bel.size,HA.out.bel.block⟩)
   have hlt:W.heap.size≤gn:=hr.1
   have hrow:Rw w.heap.size gn 272 3 1 cn [.bool true,.int .i64 0,.int .i64 1] w3:=(Rw.mk HA.out.own:Rw W.heap.size gn 272 3 1 cn _ w3).mono oM
   exact ⟨gn,cn,rfl,(HC.below hbl).setM0 _,(HL.below hbl).set (by show m≠gl;omega) _,(HF.below hbl).set (by show m≠gh;omega) _,(HG.below hbl).set (by show m≠gs;omega) _,hrow.set (by show m≠gn;omega) _,by omega⟩
 clear HC HL HF HG m0 m1 m2 m3 m4 n0 n1 n2 x0 x1 x2 xf g0 g1 g2 gf y0 y1 y2 y3 y4 y5 y6 y7 y8 wl ml0 b10 b30 b40 ml1 b11 b31 b41 ml2 b12 b32 b42 ml3 b13 b33 b43
 rintro gp cp W ⟨HC,HL,HF,HG,HT,hgp⟩
 have HMK:Hid (MK b0 m 178 #[.slice (some ⟨gp,0,none⟩) 1 cp,.slice (some ⟨gs,0,none⟩) 1 cs,.slice (some ⟨gl,0,none⟩) 1 cl,.slice none 0 0,.slice (some ⟨wa,0,none⟩) 1 1] [⟨4,118,2,.slice (some ⟨wa,0,none⟩) 1 1,1,[.bool true,.slice (some ⟨q,0,none⟩) 1 c]⟩,⟨3,290,7,.slice none 0 0,0,[]⟩,⟨0,272,3,.slice (some ⟨gp,0,none⟩) 1 cp,1,[.bool true,.int .i64 0,.int .i64 1]⟩,⟨1,275,3,.slice (some ⟨gs,0,none⟩) 1 cs,1,[.bool false,.int .i64 0,.int .i64 1]⟩,⟨2,280,8,.slice (some ⟨gl,0,none⟩) 1 cl,1,[.int .i64 4,.string ⟨#[]⟩,.int .i64 0,.int .i64 0,.int .i64 0,.bool false,.bool false,.int .i64 0]⟩] W):=by
  refine hid ⟨hb0,HC.mo,?_,by simp⟩
  intro x hx
  simp only [List.mem_cons,List.not_mem_nil,or_false] at hx
  rcases hx with rfl|rfl|rfl|rfl|rfl
  ·refine ⟨own_keep HW.out fun g hg=>HC.gr.block g ?_ ?_,by simp,rfl⟩
   ·obtain ⟨-,cur,h2⟩ :=own_obj HW.out hg
    exact (Array.getElem?_eq_some_iff.1 h2).1
   ·intro e
    injection e with e;subst e
    obtain ⟨-,cur,h2⟩ :=own_obj HW.out hg
    rw [HM0.out] at h2
    injection h2 with h2;injection h2 with _ h2 _;revert h2;decide
  ·exact ⟨World.ownsRow_nil _ _ _ _,by simp,rfl⟩
  ·exact ⟨(HT.mono hbw).own,by simp,rfl⟩
  ·exact ⟨(HG.mono hbw).own,by simp,rfl⟩
  ·exact ⟨(HL.mono hbw).own,by simp,rfl⟩
 have HB:Hid (Below b0 w W):=hid (gr_bel HC.gr hbw hb0)
 have HX1:Hid (Bk X (xvL i la lk ln ra rk rn) W):=hid (HX.out.of HB.out.size (fun k=>HB.out.cell (p:=⟨X,k,none⟩) hXb) (fun k=>HB.out.frozen (p:=⟨X,k,none⟩) hXb))
 obtain ⟨-,fl,-,hfc⟩ :=own_row HF.own
 have F0:=hfc 0 _ rfl
 obtain ⟨-,sl,-,hlc⟩ :=own_row HL.own
 have L0:=hlc 0 _ rfl
 have L1:=hlc 1 _ rfl
 have L2:=hlc 2 _ rfl
 have L3:=hlc 3 _ rfl
 have L4:=hlc 4 _ rfl
 have L5:=hlc 5 _ rfl
 have L6:=hlc 6 _ rfl
 have L7:=hlc 7 _ rfl
 have hss:W.setCell ⟨gl,7,none⟩ (.int .i64 0)=W:=set_same L7 rfl
 have lz:W.frozen? ⟨gl,7,none⟩=false:=by
  obtain ⟨-,cur,h2⟩ :=own_obj HL.own rfl
  simp [World.frozen?,h2]
 have m2:=HC.cell 2 _ rfl
 have m3:=HC.cell 3 _ rfl
 have ml0:m<W.heap.size:=HMK.out.lt
 have Xl:X<W.heap.size:=oM
 have z0:=HX1.out.c 0 _ rfl
 have z1:=HX1.out.c 1 _ rfl
 have z2:=HX1.out.c 2 _ rfl
 have z3:=HX1.out.c 3 _ rfl
 have z4:=HX1.out.c 4 _ rfl
 have z5:=HX1.out.c 5 _ rfl
 have z6:=HX1.out.c 6 _ rfl
 have z7:=HX1.out.c 7 _ rfl
 have z8:=HX1.out.c 8 _ rfl
 have z9:=HX1.out.c 9 _ rfl
 have z10:=HX1.out.c 10 _ rfl
 have z11:=HX1.out.c 11 _ rfl
 have z12:=HX1.out.c 12 _ rfl
 have z13:=HX1.out.c 13 _ rfl
 have z14:=HX1.out.c 14 _ rfl
 have z15:=HX1.out.c 15 _ rfl
 have z16:=HX1.out.c 16 _ rfl
 clear HC HL HF HG HT HX hfc hlc HW HM0
 go_wp2_with (first|(refine wp_loop_unr 3 ?_;refine Unr.step ?_;intro U hU)|(refine Unr.step ?_;intro U hU))
 go_region
 all_goals go_wp2_with (first|(refine wp_loop_unr 3 ?_;refine Unr.step ?_;intro U hU)|(refine Unr.step ?_;intro U hU))
 refine (HE.out b0 m _ _ _ 1 0 _ _ [⟨0,272,3,.slice (some ⟨gp,0,none⟩) 1 cp,1,[.bool true,.int .i64 0,.int .i64 1]⟩,⟨1,275,3,.slice (some ⟨gs,0,none⟩) 1 cs,1,[.bool false,.int .i64 0,.int .i64 1]⟩,⟨2,280,8,.slice (some ⟨gl,0,none⟩) 1 cl,1,[.int .i64 4,.string ⟨#[]⟩,.int .i64 0,.int .i64 0,.int .i64 0,.bool false,.bool false,.int .i64 0]⟩] oM oM _ (HMK.out.below qR.drew)).mono ?_;rintro e w1 ⟨rfl,g4,c4,g3,c3,hM1,hb1,hf1⟩
 have HM1:Hid (MK b0 m 178 #[.slice (some ⟨gp,0,none⟩) 1 cp,.slice (some ⟨gs,0,none⟩) 1 cs,.slice (some ⟨gl,0,none⟩) 1 cl,.slice (some ⟨g3,0,none⟩) 1 c3,.slice (some ⟨g4,0,none⟩) 2 c4] (⟨3,290,7,.slice (some ⟨g3,0,none⟩) 1 c3,1,[.int .i64 1,.int .i64 1,.int .i64 sg,.int .i64 2,.int .i64 n,.string ⟨#[]⟩,.int .i64 0]⟩ ::⟨4,118,2,.slice (some ⟨g4,0,none⟩) 2 c4,2,[.bool true,.slice (some ⟨q,0,none⟩) 1 c,.bool false,.slice none 0 0]⟩ ::[⟨0,272,3,.slice (some ⟨gp,0,none⟩) 1 cp,1,[.bool true,.int .i64 0,.int .i64 1]⟩,⟨1,275,3,.slice (some ⟨gs,0,none⟩) 1 cs,1,[.bool false,.int .i64 0,.int .i64 1]⟩,⟨2,280,8,.slice (some ⟨gl,0,none⟩) 1 cl,1,[.int .i64 4,.string ⟨#[]⟩,.int .i64 0,.int .i64 0,.int .i64 0,.bool false,.bool false,.int .i64 0]⟩]) w1):=hid hM1
 have HB1:Hid (Below b0 w w1):=hid ((HB.out.trans qR.drew).trans hb1)
 clear hM1 hb1 hf1 HMK HB HE HX1
 clear F0 L0 L1 L2 L3 L4 L5 L6 L7 hss lz m2 m3 ml0 Xl z0 z1 z2 z3 z4 z5 z6 z7 z8 z9 z10 z11 z12 z13 z14 z15 z16
 go_wp2_with (first|(refine wp_loop_unr 3 ?_;refine Unr.step ?_;intro U hU)|(refine Unr.step ?_;intro U hU))
 refine (put_x b0 m _ _ 1 _ _ 5 0 0 0 0 oM _ HM1.out).mono ?_;rintro e w2 ⟨gi,ci,rfl,hM2,hb2,hf2⟩
 have HM2:=hid hM2
 have HB2:Hid (Below b0 w w2):=hid (HB1.out.trans hb2)
 clear hM2 hb2 hf2 HM1 HB1
 go_wp2_with (first|(refine wp_loop_unr 3 ?_;refine Unr.step ?_;intro U hU)|(refine Unr.step ?_;intro U hU))
 exact bodyPost_end (v:=.tuple #[]) (by simp [results,results84,go_sem]) rfl ⟨rfl,⟨gp,cp,gs,cs,gl,cl,gi,ci,g4,c4,HM2.out⟩,HB2.out⟩
theorem cpath_1(b0 m gp cp gs cs gl cl:Nat)(v3 v4:Value)(xs:List Value)(R:List Row)(w:World)(h:MK b0 m 178 #[.slice (some ⟨gp,0,none⟩) 1 cp,.slice (some ⟨gs,0,none⟩) 1 cs,.slice (some ⟨gl,0,none⟩) 1 cl,v3,v4] (⟨0,272,3,.slice (some ⟨gp,0,none⟩) 1 cp,1,xs⟩ ::R) w): Calls prog 84 #[.pointer (some ⟨m,0,none⟩),.agg #[.bool false,.slice none 0 0]] w fun e w'=>∃g c,e=.returned (.tuple #[])∧MK b0 m 178 #[.slice (some ⟨g,0,none⟩) 2 c,.slice (some ⟨gs,0,none⟩) 1 cs,.slice (some ⟨gl,0,none⟩) 1 cl,v3,v4] (⟨0,272,3,.slice (some ⟨g,0,none⟩) 2 c,2,xs++[.bool false,.int .i64 1,.int .i64 1]⟩ ::R) w'∧Below b0 w w':=by
 have hH:=hid h
 have hb:=h.b
 have ml:=h.lt
 have hbw:b0≤w.heap.size:=oM
 have m0:=h.cell 0 _ rfl
 have m1:=h.cell 1 _ rfl
 have m2:=h.cell 2 _ rfl
 have ml1:m<w.heap.size+1:=oM
 have ml2:m<w.heap.size+1+1:=oM
 have ml3:m<w.heap.size+1+1+1:=oM
 have mne:¬m=w.heap.size+1:=oM
 have mne2:¬w.heap.size+1=m:=oM
 clear h
 go_enter func84,ntmps84
 go_wp2_with (first|(refine wp_loop_unr 3 ?_;refine Unr.step ?_;intro U hU)|(refine Unr.step ?_;intro U hU))
 go_region
 go_wp2_with (first|(refine wp_loop_unr 3 ?_;refine Unr.step ?_;intro U hU)|(refine Unr.step ?_;intro U hU))
 have H1:=hid ((hH.out.below (((Below.refl w.heap.size w).alloc qL (.cells #[.bool false,.slice none 0 0] 118)).alloc sM (.cells #[.bool false,.int .i64 1,.int .i64 1] 272))).below qR.drew)
 have HB:Hid (Below w.heap.size w ((w.alloc (.cells #[.bool false,.slice none 0 0] 118)).alloc (.cells #[.bool false,.int .i64 1,.int .i64 1] 272)).drew):=hid tq4
 have x0:((w.alloc (.cells #[.bool false,.slice none 0 0] 118)).alloc (.cells #[.bool false,.int .i64 1,.int .i64 1] 272)).drew.cell? ⟨w.heap.size+1,0,none⟩=some (.bool false):=by simp [go_sem]
 have x1:((w.alloc (.cells #[.bool false,.slice none 0 0] 118)).alloc (.cells #[.bool false,.int .i64 1,.int .i64 1] 272)).drew.cell? ⟨w.heap.size+1,1,none⟩=some (.int .i64 1):=by simp [go_sem]
 have x2:((w.alloc (.cells #[.bool false,.slice none 0 0] 118)).alloc (.cells #[.bool false,.int .i64 1,.int .i64 1] 272)).drew.cell? ⟨w.heap.size+1,2,none⟩=some (.int .i64 1):=by simp [go_sem]
 have xl:w.heap.size+1<((w.alloc (.cells #[.bool false,.slice none 0 0] 118)).alloc (.cells #[.bool false,.int .i64 1,.int .i64 1] 272)).drew.heap.size:=by simp
 clear m0 m1 m2 ml1 ml2 ml3 mne mne2
 generalize World.drew _=W1 at H1 HB x0 x1 x2 xl ⊢
 generalize w.heap.size+1=B at x0 x1 x2 xl ⊢
 obtain ⟨i0,hi0,hz0,hs0,hb0⟩ :=info_parts kinfo272
 have hR:=H1.out.r _ (.head _)
 have cv:=H1.out.cell 0 _ hR.2.2
 have zv:=H1.out.fz 0
 have hown:Hid (W1.ownsRow b0 272 3 (.slice (some ⟨gp,0,none⟩) 1 cp) 1 xs):=hid hR.1
 have hml:=H1.out.lt
 have hml1:m<W1.heap.size+1:=oM
 have hbb:b0≤W1.heap.size:=Nat.le_trans hbw HB.out.size
 have HD:=hid (H1.out.below (W':=W1.drew) qR.drew)
 have hownD:Hid (W1.drew.ownsRow b0 272 3 (.slice (some ⟨gp,0,none⟩) 1 cp) 1 xs):=hid (HD.out.r _ (.head _)).1
 clear hR
 apply wp_cut2 (fun G cap W'=>Hid (MK b0 m 178 #[.slice (some ⟨G,0,none⟩) 2 cap,.slice (some ⟨gs,0,none⟩) 1 cs,.slice (some ⟨gl,0,none⟩) 1 cl,v3,v4] (⟨0,272,3,.slice (some ⟨G,0,none⟩) 2 cap,2,xs++[.bool false,.int .i64 1,.int .i64 1]⟩ ::R) W'∧Below b0 W1 W'))
 ·go_region_law ((first|((first|refine step_grow rfl _ _ 73 rfl 272 i0 _ 3 24 underlying73 hi0 hz0 hs0 hb0 rfl oM hown.out hbb rfl rfl rfl rfl rfl oM oM ?_|refine step_grow (w:=W1.drew) rfl _ _ 73 rfl 272 i0 _ 3 24 underlying73 hi0 hz0 hs0 hb0 rfl oM hownD.out hbb rfl rfl rfl rfl rfl oM oM ?_);intro G cap w3 ho hg;have hkp:w3.heap[m]?=some (.cells #[.slice (some ⟨gp,0,none⟩) 1 cp,.slice (some ⟨gs,0,none⟩) 1 cs,.slice (some ⟨gl,0,none⟩) 1 cl,v3,v4] 178 (0,0)):=(by first|exact H1.out.keep hg|exact HD.out.keep hg);have:w3.cell? ⟨m,0,none⟩=some (.slice (some ⟨gp,0,none⟩) 1 cp):=(by simp [World.cell?,hkp]);have:w3.frozen? ⟨m,0,none⟩=false:=(by simp [World.frozen?,hkp]);clear hkp)))
  all_goals exact ⟨G,cap,rfl,hid (by first|exact ⟨(H1.out.done hg ho).1,(H1.out.done hg ho).2.1⟩|exact ⟨(HD.out.done hg ho).1,(Below.refl b0 W1).drew.trans (HD.out.done hg ho).2.1⟩)⟩
 ·rintro G cap W2 HO
  clear cv zv hown hownD HD H1 x0 x1 x2 xl hml hml1
  go_wp2_with (first|(refine wp_loop_unr 3 ?_;refine Unr.step ?_;intro U hU)|(refine Unr.step ?_;intro U hU))
  exact bodyPost_end (v:=.tuple #[]) (by simp [results,results84,go_sem]) rfl ⟨G,cap,rfl,HO.out.1,(HB.out.mono hbw).trans HO.out.2⟩
theorem MK.perm{b0 m:Nat}{t:TypeId}{A:Array Value}{R R':List Row}{W:World}(h:MK b0 m t A R W)(hp:R.Perm R'): MK b0 m t A R' W:=⟨h.b,h.o,fun x hx=>h.r x (hp.mem_iff.2 hx),(hp.pairwise_iff (fun h=>⟨Ne.symm h.1,Ne.symm h.2⟩)).1 h.pw⟩
theorem cmake_f(q s X c:Nat)(i:Int)(la:Bool)(lk ln:Int)(ra:Bool)(rk rn sg n:Int)(hE:ExprQ i la lk ln ra rk rn sg n)(w:World)(hq:Bk q [.bool false,.slice (some ⟨s,0,none⟩) 1 1] w)(hs:Bk s [.int .i64 4,.string ⟨#[]⟩,.int .i64 0,.int .i64 0,.int .i64 0,.int .i64 0,.bool false,.bool false,.pointer (some ⟨X,0,none⟩)] w)(hX:Bk X (xvL i la lk ln ra rk rn) w): Calls prog 45 #[.agg #[.bool true,.slice (some ⟨q,0,none⟩) 1 (c:Nat)]] w fun e w'=>MakeF sg n w e w':=by
 have hqx:=hid hq
 have hsx:=hid hs
 have hXx:=hid hX
 have HE:=hid hE
 have Xl:=hX.lt
 clear hq hs hX hE
 go_enter func45,ntmps45
 go_wp2_with (first|(refine wp_loop_unr 4 ?_;refine Unr.step ?_;intro U hU)|(refine Unr.step ?_;intro U hU))
 have hbl:Hid (Below w.heap.size w ((((w.alloc (.cells #[.bool true,.slice (some ⟨q,0,none⟩) 1 c] 118)).alloc (.cells #[.slice none 0 0,.slice none 0 0,.slice none 0 0,.slice none 0 0] 78)).alloc (.cells #[.bool true,.slice (some ⟨q,0,none⟩) 1 c] 118)).alloc (.cells #[.slice none 0 0,.slice none 0 0,.slice none 0 0,.slice none 0 0,.slice (some ⟨w.heap.size+1+1,0,none⟩) 1 1] 178))):=hid tq4
 have hm0:((((w.alloc (.cells #[.bool true,.slice (some ⟨q,0,none⟩) 1 c] 118)).alloc (.cells #[.slice none 0 0,.slice none 0 0,.slice none 0 0,.slice none 0 0] 78)).alloc (.cells #[.bool true,.slice (some ⟨q,0,none⟩) 1 c] 118)).alloc (.cells #[.slice none 0 0,.slice none 0 0,.slice none 0 0,.slice none 0 0,.slice (some ⟨w.heap.size+1+1,0,none⟩) 1 1] 178)).heap[w.heap.size+1+1+1]?=some (.cells #[.slice none 0 0,.slice none 0 0,.slice none 0 0,.slice none 0 0,.slice (some ⟨w.heap.size+1+1,0,none⟩) 1 1] 178 (0,0)):=by
  have:=heap_alloc_new (((w.alloc (.cells #[.bool true,.slice (some ⟨q,0,none⟩) 1 c] 118)).alloc (.cells #[.slice none 0 0,.slice none 0 0,.slice none 0 0,.slice none 0 0] 78)).alloc (.cells #[.bool true,.slice (some ⟨q,0,none⟩) 1 c] 118)) (.cells #[.slice none 0 0,.slice none 0 0,.slice none 0 0,.slice none 0 0,.slice (some ⟨w.heap.size+1+1,0,none⟩) 1 1] 178)
  simpa using this
 have hw0:((((w.alloc (.cells #[.bool true,.slice (some ⟨q,0,none⟩) 1 c] 118)).alloc (.cells #[.slice none 0 0,.slice none 0 0,.slice none 0 0,.slice none 0 0] 78)).alloc (.cells #[.bool true,.slice (some ⟨q,0,none⟩) 1 c] 118)).alloc (.cells #[.slice none 0 0,.slice none 0 0,.slice none 0 0,.slice none 0 0,.slice (some ⟨w.heap.size+1+1,0,none⟩) 1 1] 178)).heap[w.heap.size+1+1]?=some (.cells #[.bool true,.slice (some ⟨q,0,none⟩) 1 c] 118 (0,0)):=by
  have h1:=heap_alloc_new ((w.alloc (.cells #[.bool true,.slice (some ⟨q,0,none⟩) 1 c] 118)).alloc (.cells #[.slice none 0 0,.slice none 0 0,.slice none 0 0,.slice none 0 0] 78)) (.cells #[.bool true,.slice (some ⟨q,0,none⟩) 1 c] 118)
  have h2:=((Below.refl (((w.alloc (.cells #[.bool true,.slice (some ⟨q,0,none⟩) 1 c] 118)).alloc (.cells #[.slice none 0 0,.slice none 0 0,.slice none 0 0,.slice none 0 0] 78)).alloc (.cells #[.bool true,.slice (some ⟨q,0,none⟩) 1 c] 118)).heap.size (((w.alloc (.cells #[.bool true,.slice (some ⟨q,0,none⟩) 1 c] 118)).alloc (.cells #[.slice none 0 0,.slice none 0 0,.slice none 0 0,.slice none 0 0] 78)).alloc (.cells #[.bool true,.slice (some ⟨q,0,none⟩) 1 c] 118))).alloc qL (.cells #[.slice none 0 0,.slice none 0 0,.slice none 0 0,.slice none 0 0,.slice (some ⟨w.heap.size+1+1,0,none⟩) 1 1] 178)).block (w.heap.size+1+1) sM
  refine h2.trans ?_
  simpa using h1
 have r0:((((w.alloc (.cells #[.bool true,.slice (some ⟨q,0,none⟩) 1 c] 118)).alloc (.cells #[.slice none 0 0,.slice none 0 0,.slice none 0 0,.slice none 0 0] 78)).alloc (.cells #[.bool true,.slice (some ⟨q,0,none⟩) 1 c] 118)).alloc (.cells #[.slice none 0 0,.slice none 0 0,.slice none 0 0,.slice none 0 0,.slice (some ⟨w.heap.size+1+1,0,none⟩) 1 1] 178)).cell? ⟨w.heap.size+1,0,none⟩=some (.slice none 0 0):=by simp [go_sem]
 have z0:((((w.alloc (.cells #[.bool true,.slice (some ⟨q,0,none⟩) 1 c] 118)).alloc (.cells #[.slice none 0 0,.slice none 0 0,.slice none 0 0,.slice none 0 0] 78)).alloc (.cells #[.bool true,.slice (some ⟨q,0,none⟩) 1 c] 118)).alloc (.cells #[.slice none 0 0,.slice none 0 0,.slice none 0 0,.slice none 0 0,.slice (some ⟨w.heap.size+1+1,0,none⟩) 1 1] 178)).frozen? ⟨w.heap.size+1,0,none⟩=false:=by simp [go_sem]
 have r1:((((w.alloc (.cells #[.bool true,.slice (some ⟨q,0,none⟩) 1 c] 118)).alloc (.cells #[.slice none 0 0,.slice none 0 0,.slice none 0 0,.slice none 0 0] 78)).alloc (.cells #[.bool true,.slice (some ⟨q,0,none⟩) 1 c] 118)).alloc (.cells #[.slice none 0 0,.slice none 0 0,.slice none 0 0,.slice none 0 0,.slice (some ⟨w.heap.size+1+1,0,none⟩) 1 1] 178)).cell? ⟨w.heap.size+1,1,none⟩=some (.slice none 0 0):=by simp [go_sem]
 have z1:((((w.alloc (.cells #[.bool true,.slice (some ⟨q,0,none⟩) 1 c] 118)).alloc (.cells #[.slice none 0 0,.slice none 0 0,.slice none 0 0,.slice none 0 0] 78)).alloc (.cells #[.bool true,.slice (some ⟨q,0,none⟩) 1 c] 118)).alloc (.cells #[.slice none 0 0,.slice none 0 0,.slice none 0 0,.slice none 0 0,.slice (some ⟨w.heap.size+1+1,0,none⟩) 1 1] 178)).frozen? ⟨w.heap.size+1,1,none⟩=false:=by simp [go_sem]
 have r2:((((w.alloc (.cells #[.bool true,.slice (some ⟨q,0,none⟩) 1 c] 118)).alloc (.cells #[.slice none 0 0,.slice none 0 0,.slice none 0 0,.slice none 0 0] 78)).alloc (.cells #[.bool true,.slice (some ⟨q,0,none⟩) 1 c] 118)).alloc (.cells #[.slice none 0 0,.slice none 0 0,.slice none 0 0,.slice none 0 0,.slice (some ⟨w.heap.size+1+1,0,none⟩) 1 1] 178)).cell? ⟨w.heap.size+1,2,none⟩=some (.slice none 0 0):=by simp [go_sem]
 have z2:((((w.alloc (.cells #[.bool true,.slice (some ⟨q,0,none⟩) 1 c] 118)).alloc (.cells #[.slice none 0 0,.slice none 0 0,.slice none 0 0,.slice none 0 0] 78)).alloc (.cells #[.bool true,.slice (some ⟨q,0,none⟩) 1 c] 118)).alloc (.cells #[.slice none 0 0,.slice none 0 0,.slice none 0 0,.slice none 0 0,.slice (some ⟨w.heap.size+1+1,0,none⟩) 1 1] 178)).frozen? ⟨w.heap.size+1,2,none⟩=false:=by simp [go_sem]
 have r3:((((w.alloc (.cells #[.bool true,.slice (some ⟨q,0,none⟩) 1 c] 118)).alloc (.cells #[.slice none 0 0,.slice none 0 0,.slice none 0 0,.slice none 0 0] 78)).alloc (.cells #[.bool true,.slice (some ⟨q,0,none⟩) 1 c] 118)).alloc (.cells #[.slice none 0 0,.slice none 0 0,.slice none 0 0,.slice none 0 0,.slice (some ⟨w.heap.size+1+1,0,none⟩) 1 1] 178)).cell? ⟨w.heap.size+1,3,none⟩=some (.slice none 0 0):=by simp [go_sem]
 have z3:((((w.alloc (.cells #[.bool true,.slice (some ⟨q,0,none⟩) 1 c] 118)).alloc (.cells #[.slice none 0 0,.slice none 0 0,.slice none 0 0,.slice none 0 0] 78)).alloc (.cells #[.bool true,.slice (some ⟨q,0,none⟩) 1 c] 118)).alloc (.cells #[.slice none 0 0,.slice none 0 0,.slice none 0 0,.slice none 0 0,.slice (some ⟨w.heap.size+1+1,0,none⟩) 1 1] 178)).frozen? ⟨w.heap.size+1,3,none⟩=false:=by simp [go_sem]
 have hsz:((((w.alloc (.cells #[.bool true,.slice (some ⟨q,0,none⟩) 1 c] 118)).alloc (.cells #[.slice none 0 0,.slice none 0 0,.slice none 0 0,.slice none 0 0] 78)).alloc (.cells #[.bool true,.slice (some ⟨q,0,none⟩) 1 c] 118)).alloc (.cells #[.slice none 0 0,.slice none 0 0,.slice none 0 0,.slice none 0 0,.slice (some ⟨w.heap.size+1+1,0,none⟩) 1 1] 178)).heap.size=w.heap.size+1+1+1+1:=by simp
 generalize ((((w.alloc (.cells #[.bool true,.slice (some ⟨q,0,none⟩) 1 c] 118)).alloc (.cells #[.slice none 0 0,.slice none 0 0,.slice none 0 0,.slice none 0 0] 78)).alloc (.cells #[.bool true,.slice (some ⟨q,0,none⟩) 1 c] 118)).alloc (.cells #[.slice none 0 0,.slice none 0 0,.slice none 0 0,.slice none 0 0,.slice (some ⟨w.heap.size+1+1,0,none⟩) 1 1] 178))=V at hbl hm0 hw0 r0 r1 r2 r3 z0 z1 z2 z3 hsz ⊢
 generalize hH:w.heap.size=H at hbl hm0 hw0 r0 r1 r2 r3 z0 z1 z2 z3 hsz Xl ⊢
 refine (cpath_f (H+1+1) (H+1+1+1) (H+1+1) q s X c i la lk ln ra rk rn sg n HE.out V oM hm0 ⟨rfl,.inr ⟨H+1+1,1,_,rfl,qL,hw0,by omega,by unfold maxLen;omega,rfl,rfl⟩⟩ (hqx.out.below (by rw [hH];exact hbl.out)) (hsx.out.below (by rw [hH];exact hbl.out)) (hXx.out.below (by rw [hH];exact hbl.out)) oM).mono ?_;rintro e w1 ⟨rfl,⟨gp,cp,gs,cs,gl,cl,gi,ci,gw,cw,hM⟩,hb1⟩
 have HM:=hid hM
 have HB1:Hid (Below H w w1):=hid (hbl.out.trans (hb1.mono oM))
 have s1:=hM.lt
 have rr0:=(hb1.cell (p:=⟨H+1,0,none⟩) (by show H+1<H+1+1;omega)).trans r0
 have zz0:=(hb1.frozen (p:=⟨H+1,0,none⟩) (by show H+1<H+1+1;omega)).trans z0
 have rr1:=(hb1.cell (p:=⟨H+1,1,none⟩) (by show H+1<H+1+1;omega)).trans r1
 have zz1:=(hb1.frozen (p:=⟨H+1,1,none⟩) (by show H+1<H+1+1;omega)).trans z1
 have rr2:=(hb1.cell (p:=⟨H+1,2,none⟩) (by show H+1<H+1+1;omega)).trans r2
 have zz2:=(hb1.frozen (p:=⟨H+1,2,none⟩) (by show H+1<H+1+1;omega)).trans z2
 have rr3:=(hb1.cell (p:=⟨H+1,3,none⟩) (by show H+1<H+1+1;omega)).trans r3
 have zz3:=(hb1.frozen (p:=⟨H+1,3,none⟩) (by show H+1<H+1+1;omega)).trans z3
 have m0:=HM.out.cell 0 _ rfl
 have m1:=HM.out.cell 1 _ rfl
 have m2:=HM.out.cell 2 _ rfl
 have m3:=HM.out.cell 3 _ rfl
 have m4:=HM.out.cell 4 _ rfl
 obtain ⟨hgw,-,-⟩ :=HM.out.bk (k:=4) (e:=118) (size:=2) (g:=gw) (n:=2) (cap:=cw) (xs:=[.bool true,.slice (some ⟨q,0,none⟩) 1 c,.bool false,.slice none 0 0]) sM
 have g2:=hgw.c 2 _ rfl;have g3:=hgw.c 3 _ rfl;have gwl:=hgw.lt
 have l1:H+1<w1.heap.size:=oM
 clear hM hb1 hbl hm0 hw0 r0 r1 r2 r3 z0 z1 z2 z3 hsz hqx hsx hXx HE
 go_wp2_with (first|(refine wp_loop_unr 4 ?_;refine Unr.step ?_;intro U hU)|(refine Unr.step ?_;intro U hU))
 have HP:=HM.out.perm (List.perm_middle (a:=(⟨0,272,3,.slice (some ⟨gp,0,none⟩) 1 cp,1,[.bool true,.int .i64 0,.int .i64 1]⟩:Row)) (l₁:=[⟨3,290,7,.slice (some ⟨gi,0,none⟩) 2 ci,2,[.int .i64 1,.int .i64 1,.int .i64 sg,.int .i64 2,.int .i64 n,.string ⟨#[]⟩,.int .i64 0,.int .i64 5,.int .i64 0,.int .i64 0,.int .i64 0,.int .i64 0,.string ⟨#[]⟩,.int .i64 0]⟩,⟨4,118,2,.slice (some ⟨gw,0,none⟩) 2 cw,2,[.bool true,.slice (some ⟨q,0,none⟩) 1 c,.bool false,.slice none 0 0]⟩]) (l₂:=[⟨1,275,3,.slice (some ⟨gs,0,none⟩) 1 cs,1,[.bool false,.int .i64 0,.int .i64 1]⟩,⟨2,280,8,.slice (some ⟨gl,0,none⟩) 1 cl,1,[.int .i64 4,.string ⟨#[]⟩,.int .i64 0,.int .i64 0,.int .i64 0,.bool false,.bool false,.int .i64 0]⟩]))
 refine (cpath_1 (H+1+1) (H+1+1+1) gp cp gs cs gl cl _ _ _ _ w1 HP).mono ?_;rintro e w2 ⟨gq,cq,rfl,hM2,hb2⟩
 have HM2:Hid (MK (H+1+1) (H+1+1+1) 178 #[.slice (some ⟨gq,0,none⟩) 2 cq,.slice (some ⟨gs,0,none⟩) 1 cs,.slice (some ⟨gl,0,none⟩) 1 cl,.slice (some ⟨gi,0,none⟩) 2 ci,.slice (some ⟨gw,0,none⟩) 2 cw] (⟨0,272,3,.slice (some ⟨gq,0,none⟩) 2 cq,2,[.bool true,.int .i64 0,.int .i64 1,.bool false,.int .i64 1,.int .i64 1]⟩ ::[⟨3,290,7,.slice (some ⟨gi,0,none⟩) 2 ci,2,[.int .i64 1,.int .i64 1,.int .i64 sg,.int .i64 2,.int .i64 n,.string ⟨#[]⟩,.int .i64 0,.int .i64 5,.int .i64 0,.int .i64 0,.int .i64 0,.int .i64 0,.string ⟨#[]⟩,.int .i64 0]⟩,⟨4,118,2,.slice (some ⟨gw,0,none⟩) 2 cw,2,[.bool true,.slice (some ⟨q,0,none⟩) 1 c,.bool false,.slice none 0 0]⟩,⟨1,275,3,.slice (some ⟨gs,0,none⟩) 1 cs,1,[.bool false,.int .i64 0,.int .i64 1]⟩,⟨2,280,8,.slice (some ⟨gl,0,none⟩) 1 cl,1,[.int .i64 4,.string ⟨#[]⟩,.int .i64 0,.int .i64 0,.int .i64 0,.bool false,.bool false,.int .i64 0]⟩]) w2):=hid hM2
 have HB2:Hid (Below H w w2):=hid (HB1.out.trans (hb2.mono oM))
 have ra0:=(hb2.cell (p:=⟨H+1,0,none⟩) (by show H+1<H+1+1;omega)).trans rr0
 have za0:=(hb2.frozen (p:=⟨H+1,0,none⟩) (by show H+1<H+1+1;omega)).trans zz0
 have ra1:=(hb2.cell (p:=⟨H+1,1,none⟩) (by show H+1<H+1+1;omega)).trans rr1
 have za1:=(hb2.frozen (p:=⟨H+1,1,none⟩) (by show H+1<H+1+1;omega)).trans zz1
 have ra2:=(hb2.cell (p:=⟨H+1,2,none⟩) (by show H+1<H+1+1;omega)).trans rr2
 have za2:=(hb2.frozen (p:=⟨H+1,2,none⟩) (by show H+1<H+1+1;omega)).trans zz2
 have ra3:=(hb2.cell (p:=⟨H+1,3,none⟩) (by show H+1<H+1+1;omega)).trans rr3
 have za3:=(hb2.frozen (p:=⟨H+1,3,none⟩) (by show H+1<H+1+1;omega)).trans zz3
 have s2:=HM2.out.lt
 have l2:H+1<w2.heap.size:=oM
 clear hM2 hb2 HP HM HB1 s1 l1 g2 g3 gwl hgw m0 m1 m2 m3 m4 rr0 rr1 rr2 rr3 zz0 zz1 zz2 zz3
 have m0:=HM2.out.cell 0 _ rfl
 have m1:=HM2.out.cell 1 _ rfl
 have m2:=HM2.out.cell 2 _ rfl
 have m3:=HM2.out.cell 3 _ rfl
 have m4:=HM2.out.cell 4 _ rfl
 go_wp2_with (first|(refine wp_loop_unr 4 ?_;refine Unr.step ?_;intro U hU)|(refine Unr.step ?_;intro U hU))
 try simp only [Exit.inBlock,Exit.then]
 obtain ⟨kp,kpc,kpb⟩ :=HM2.out.bk (k:=0) (e:=272) (size:=3) (g:=gq) (n:=2) (cap:=cq) (xs:=[.bool true,.int .i64 0,.int .i64 1,.bool false,.int .i64 1,.int .i64 1]) sM
 obtain ⟨ks,ksc,ksb⟩ :=HM2.out.bk (k:=1) (e:=275) (size:=3) (g:=gs) (n:=1) (cap:=cs) (xs:=[.bool false,.int .i64 0,.int .i64 1]) sM
 obtain ⟨kl,klc,klb⟩ :=HM2.out.bk (k:=2) (e:=280) (size:=8) (g:=gl) (n:=1) (cap:=cl) (xs:=[.int .i64 4,.string ⟨#[]⟩,.int .i64 0,.int .i64 0,.int .i64 0,.bool false,.bool false,.int .i64 0]) sM
 obtain ⟨ki,kic,kib⟩ :=HM2.out.bk (k:=3) (e:=290) (size:=7) (g:=gi) (n:=2) (cap:=ci) (xs:=[.int .i64 1,.int .i64 1,.int .i64 sg,.int .i64 2,.int .i64 n,.string ⟨#[]⟩,.int .i64 0,.int .i64 5,.int .i64 0,.int .i64 0,.int .i64 0,.int .i64 0,.string ⟨#[]⟩,.int .i64 0]) sM
 have hne:∀g,H+1+1≤g→H+1≠g:=fun g hg=>oM
 refine bodyPost_ret (v:=.agg #[.slice (some ⟨gq,0,none⟩) 2 cq,.slice (some ⟨gs,0,none⟩) 1 cs,.slice (some ⟨gl,0,none⟩) 1 cl,.slice (some ⟨gi,0,none⟩) 2 ci]) (by simp [results,results45,go_sem,ra0,ra1,ra2,ra3]) rfl ⟨gq,cq,gs,cs,gl,cl,gi,ci,rfl,?_,⟨by omega,by omega,by omega,by omega⟩,⟨kpc,ksc,klc,kic⟩,?_⟩
 ·repeat' (first|refine Cdf.setO ?_ (hne _ kpb) (hne _ ksb) (hne _ klb) (hne _ kib) _|exact ⟨kp,ks,kl,ki⟩)
 ·rw [hH];repeat' (first|refine Below.setCell ?_ (by show H≤H+1;omega) _|exact HB2.out)
theorem cquery_f(qq:ByteArray)(i:Int)(la:Bool)(lk ln:Int)(ra:Bool)(rk rn sg n:Int)(hE:ExprQ i la lk ln ra rk rn sg n)(hP:∀W:World,Calls prog 44 #[.string qq] W fun e w'=>ParsedP W (xvL i la lk ln ra rk rn) e w')(w:World): Calls prog 26 #[.string qq] w fun e w'=>QueryF sg n w e w':=by
 have HP:=hid hP
 have HE:=hid hE
 clear hP hE
 go_enter func26,ntmps26
 go_wp2_with fail
 refine (HP.out _).mono ?_;rintro e w1 ⟨q,c,s,X,rfl,hc1,hb1,hQ,hS,hX,gq,gs0,gx⟩
 have HQ:=hid hQ
 have HS:=hid hS
 have HX:=hid hX
 clear hQ hS hX HP
 have s1:=hb1.size;try simp at s1
 try (have:w.heap.size<w1.heap.size:=oM)
 try (have:w.heap.size<w1.heap.size+1:=oM)
 try (have:w.heap.size<w1.heap.size+1+1:=oM)
 try (have:w.heap.size+1<w1.heap.size:=oM)
 try (have:w.heap.size+1<w1.heap.size+1:=oM)
 try (have:w.heap.size+1<w1.heap.size+1+1:=oM)
 try (have e1_0_0_0:=hb1.cl w.heap.size 0;simp [go_sem, *] at e1_0_0_0)
 try (have f1_0_0_0:=hb1.fz w.heap.size 0;simp [go_sem, *] at f1_0_0_0)
 try (have e1_0_0_1:=hb1.cl w.heap.size 1;simp [go_sem, *] at e1_0_0_1)
 try (have f1_0_0_1:=hb1.fz w.heap.size 1;simp [go_sem, *] at f1_0_0_1)
 try (have e1_0_0_2:=hb1.cl w.heap.size 2;simp [go_sem, *] at e1_0_0_2)
 try (have f1_0_0_2:=hb1.fz w.heap.size 2;simp [go_sem, *] at f1_0_0_2)
 try (have e1_0_0_3:=hb1.cl w.heap.size 3;simp [go_sem, *] at e1_0_0_3)
 try (have f1_0_0_3:=hb1.fz w.heap.size 3;simp [go_sem, *] at f1_0_0_3)
 try (have e1_0_1_0:=hb1.cl (w.heap.size+1) 0;simp [go_sem, *] at e1_0_1_0)
 try (have f1_0_1_0:=hb1.fz (w.heap.size+1) 0;simp [go_sem, *] at f1_0_1_0)
 try (have e1_0_1_1:=hb1.cl (w.heap.size+1) 1;simp [go_sem, *] at e1_0_1_1)
 try (have f1_0_1_1:=hb1.fz (w.heap.size+1) 1;simp [go_sem, *] at f1_0_1_1)
 have HB1:=bel_step (w:=w) tq4 hb1
 clear hb1
 go_wp2_with fail
 refine (cmake_f q s X c i la lk ln ra rk rn sg n HE.out _ (HQ.out.below tq4) (HS.out.below tq4) (HX.out.below tq4)).mono ?_;rintro e w2 ⟨gp,cp,gs,cs,gl,cl,gi,ci,rfl,hC,⟨hgp,hgs,hgl,hgi⟩,⟨k0,k1,k2,k3⟩,hb2⟩
 have s2:=hb2.size;try simp at s2
 simp at hgp hgs hgl hgi
 try (have:w.heap.size<w2.heap.size:=oM)
 try (have:w.heap.size<w2.heap.size+1:=oM)
 try (have:w.heap.size<w2.heap.size+1+1:=oM)
 try (have:w.heap.size+1<w2.heap.size:=oM)
 try (have:w.heap.size+1<w2.heap.size+1:=oM)
 try (have:w.heap.size+1<w2.heap.size+1+1:=oM)
 try (have e2_0_0_0:=hb2.cl w.heap.size 0;simp [go_sem, *] at e2_0_0_0)
 try (have f2_0_0_0:=hb2.fz w.heap.size 0;simp [go_sem, *] at f2_0_0_0)
 try (have e2_0_0_1:=hb2.cl w.heap.size 1;simp [go_sem, *] at e2_0_0_1)
 try (have f2_0_0_1:=hb2.fz w.heap.size 1;simp [go_sem, *] at f2_0_0_1)
 try (have e2_0_0_2:=hb2.cl w.heap.size 2;simp [go_sem, *] at e2_0_0_2)
 try (have f2_0_0_2:=hb2.fz w.heap.size 2;simp [go_sem, *] at f2_0_0_2)
 try (have e2_0_0_3:=hb2.cl w.heap.size 3;simp [go_sem, *] at e2_0_0_3)
 try (have f2_0_0_3:=hb2.fz w.heap.size 3;simp [go_sem, *] at f2_0_0_3)
 try (have e2_0_1_0:=hb2.cl (w.heap.size+1) 0;simp [go_sem, *] at e2_0_1_0)
 try (have f2_0_1_0:=hb2.fz (w.heap.size+1) 0;simp [go_sem, *] at f2_0_1_0)
 try (have e2_0_1_1:=hb2.cl (w.heap.size+1) 1;simp [go_sem, *] at e2_0_1_1)
 try (have f2_0_1_1:=hb2.fz (w.heap.size+1) 1;simp [go_sem, *] at f2_0_1_1)
 have HB2:=bel_step (w:=w) tq4 hb2
 clear hb2
 go_wp2_with fail
 try simp only [Exit.inBlock,Exit.then]
 refine bodyPost_ret (v:=.tuple #[.agg #[.slice (some ⟨gp,0,none⟩) 2 cp,.slice (some ⟨gs,0,none⟩) 1 cs,.slice (some ⟨gl,0,none⟩) 1 cl,.slice (some ⟨gi,0,none⟩) 2 ci],.agg #[.int .i64 0,.int .i64 0]]) (by simp [results,results26,go_sem, *]) rfl ⟨gp,cp,gs,cs,gl,cl,gi,ci,rfl,?_,⟨k0,k1,k2,k3⟩,tq4⟩
 repeat' (first|refine Cdf.setO ?_ tq3 tq3 tq3 tq3 _|refine Cdf.below ?_ (qR.alloc qL _)|exact hC)
end Nn
end Go.Proofs.YtjcioljdlfdnbaaGreatDoor
