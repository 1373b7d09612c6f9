/- Part 11: lemmas for TopNumber; no conditions. -/
import Derived.Test.YtjcioljdlfdnbaaGreatDoorH10
set_option linter.unusedVariables false
set_option linter.unusedSimpArgs false
set_option maxRecDepth 100000
set_option maxHeartbeats 2000000
open Go.Proofs.Tryz
namespace Go.Proofs.YtjcioljdlfdnbaaGreatDoor
section
open Go.RowKit
structure Mk0 (w:World) (m wa:Nat):Prop where
 lt:m<w.heap.size
 c0:w.cell? ⟨m,0,none⟩=some (.slice none 0 0)
 c1:w.cell? ⟨m,1,none⟩=some (.slice none 0 0)
 c2:w.cell? ⟨m,2,none⟩=some (.slice none 0 0)
 c3:w.cell? ⟨m,3,none⟩=some (.slice none 0 0)
 c4:w.cell? ⟨m,4,none⟩=some (.slice (some ⟨wa,0,none⟩) 1 1)
 f0:w.frozen? ⟨m,0,none⟩=false
 f1:w.frozen? ⟨m,1,none⟩=false
 f2:w.frozen? ⟨m,2,none⟩=false
theorem Below.gr{w W:World}{r:Option Nat}(h:Below w.heap.size w W): w.grownBy W r:=⟨h.os,h.tape,h.output,h.size,fun k hk _=>h.block k hk⟩
theorem step_push_d{P:Program}{ops:Array Oper}{o:Oper}{a:Act}{K:Act→World→Prop}{Q:Exit→Act→World→Prop}{E:Prop}{w0 w:World}{C:Array Value}{ty:TypeId}(hgd:o.guard=none)(s x:Operand)(t:TypeId)(ho:o.op=.call { callee:=.builtin .append,args:=#[s,x],argTypes:=#[t,t] })(e:TypeId)(i:TypeInfo)(z:Value)(size bytes:Nat)(ht:P.underlying t=some (.slice e))(hi:P.info? e=some i)(hz:i.zero=some z)(hsize:i.size=size)(hby:i.bytes=bytes)(hzs:z.cells.size=size)(hsz:0<size){v:Value}{n:Nat}{xs:List Value}(hA:Acc w0 w.drew e size v n xs)(hs:a.eval s=v){H:Nat}(hx:a.eval x=.slice (some ⟨H,0,none⟩) 1 1)(hH:w.heap.size=H)(hC:C.size=size)(h1:C.toList.all (·.oneCell')=true)(h63:n<1000)(hbytes:bytes≤1000)(h:∀g cap w',Acc w0 w' e size (.slice (some ⟨g,0,none⟩) (n+1) cap) (n+1) (xs++C.toList)→K (a.put o.dst (.slice (some ⟨g,0,none⟩) (n+1) cap)) w'):
  if Region.wanted o (yielded ops a.tmps)=true then Oper.wp P o a (w.alloc (.cells C ty)).drew K Q else E:=
 step_push (w:=w.drew) hgd s x t ho e i z size bytes ht hi hz hsize hby hzs hsz hA hs hx hH hC h1 h63 hbytes h
theorem wp_cut2{P:Program}{c:Code}{Q:Exit→Act→World→Prop}{a:Act}{w:World}(S:Nat→Nat→World→Prop)(A:Nat→Nat→Act)(h:c.wp P (Exit.then (fun a w=>∃x y,a=A x y∧S x y w) Q) a w)(k:∀x y w,S x y w→Q .normal (A x y) w): c.wp P Q a w:=by
 refine wp_mono h ?_
 intro e a w hq
 cases e <;> first|(obtain ⟨x,y,rfl,hs⟩ :=hq;exact k _ _ _ hs)|exact hq
theorem wp_cut3{P:Program}{c:Code}{Q:Exit→Act→World→Prop}{a:Act}{w:World}(S:Nat→Nat→World→World→Prop)(A:Nat→Nat→World→Act)(h:c.wp P (Exit.then (fun a w=>∃x y z,a=A x y z∧S x y z w) Q) a w)(k:∀x y z w,S x y z w→Q .normal (A x y z) w): c.wp P Q a w:=by
 refine wp_mono h ?_
 intro e a w hq
 cases e <;> first|(obtain ⟨x,y,z,rfl,hs⟩ :=hq;exact k _ _ _ _ hs)|exact hq
structure CL (g:Nat) (W:World):Prop where
 lt:g<W.heap.size
 c0:W.cell? ⟨g,0,none⟩=some (.int .i64 2)
 c1:W.cell? ⟨g,1,none⟩=some (.string ⟨#[]⟩)
 c2:W.cell? ⟨g,2,none⟩=some (.int .i64 0)
 c3:W.cell? ⟨g,3,none⟩=some (.int .i64 0)
 c4:W.cell? ⟨g,4,none⟩=some (.int .i64 0)
 c5:W.cell? ⟨g,5,none⟩=some (.bool false)
 c6:W.cell? ⟨g,6,none⟩=some (.bool false)
 c7:W.cell? ⟨g,7,none⟩=some (.int .i64 0)
theorem CL.of{W W':World}{g:Nat}(h:CL g W)(hs:W.heap.size≤W'.heap.size)(hc:∀c,W'.cell? ⟨g,c,none⟩=W.cell? ⟨g,c,none⟩): CL g W':=⟨Nat.lt_of_lt_of_le h.lt hs,(hc 0).trans h.c0,(hc 1).trans h.c1,(hc 2).trans h.c2,(hc 3).trans h.c3,(hc 4).trans h.c4,(hc 5).trans h.c5,(hc 6).trans h.c6,(hc 7).trans h.c7⟩
theorem CL.below{W W':World}{g:Nat}(h:CL g W)(hb:Below W.heap.size W W'): CL g W':=h.of hb.size fun c=>hb.cell (p:=⟨g,c,none⟩) h.lt
theorem CL.set{W:World}{g:Nat}(h:CL g W){a:Addr}(hne:a.block≠g)(v:Value): CL g (W.setCell a v):=h.of (by simp [World.setCell]) fun c=>qO (by intro e;exact hne (by rw [e]))
structure CF (g:Nat) (W:World):Prop where
 lt:g<W.heap.size
 c0:W.cell? ⟨g,0,none⟩=some (.pointer none)
theorem CF.of{W W':World}{g:Nat}(h:CF g W)(hs:W.heap.size≤W'.heap.size)(hc:∀c,W'.cell? ⟨g,c,none⟩=W.cell? ⟨g,c,none⟩): CF g W':=⟨Nat.lt_of_lt_of_le h.lt hs,(hc 0).trans h.c0⟩
theorem CF.below{W W':World}{g:Nat}(h:CF g W)(hb:Below W.heap.size W W'): CF g W':=h.of hb.size fun c=>hb.cell (p:=⟨g,c,none⟩) h.lt
theorem CF.set{W:World}{g:Nat}(h:CF g W){a:Addr}(hne:a.block≠g)(v:Value): CF g (W.setCell a v):=h.of (by simp [World.setCell]) fun c=>qO (by intro e;exact hne (by rw [e]))
structure CG (g:Nat) (W:World):Prop where
 lt:g<W.heap.size
 c0:W.cell? ⟨g,0,none⟩=some (.bool false)
 c1:W.cell? ⟨g,1,none⟩=some (.int .i64 0)
 c2:W.cell? ⟨g,2,none⟩=some (.int .i64 1)
theorem CG.of{W W':World}{g:Nat}(h:CG g W)(hs:W.heap.size≤W'.heap.size)(hc:∀c,W'.cell? ⟨g,c,none⟩=W.cell? ⟨g,c,none⟩): CG g W':=⟨Nat.lt_of_lt_of_le h.lt hs,(hc 0).trans h.c0,(hc 1).trans h.c1,(hc 2).trans h.c2⟩
theorem CG.below{W W':World}{g:Nat}(h:CG g W)(hb:Below W.heap.size W W'): CG g W':=h.of hb.size fun c=>hb.cell (p:=⟨g,c,none⟩) h.lt
theorem CG.set{W:World}{g:Nat}(h:CG g W){a:Addr}(hne:a.block≠g)(v:Value): CG g (W.setCell a v):=h.of (by simp [World.setCell]) fun c=>qO (by intro e;exact hne (by rw [e]))
structure CT (g:Nat) (W:World):Prop where
 lt:g<W.heap.size
 c0:W.cell? ⟨g,0,none⟩=some (.bool true)
 c1:W.cell? ⟨g,1,none⟩=some (.int .i64 0)
 c2:W.cell? ⟨g,2,none⟩=some (.int .i64 1)
theorem CT.of{W W':World}{g:Nat}(h:CT g W)(hs:W.heap.size≤W'.heap.size)(hc:∀c,W'.cell? ⟨g,c,none⟩=W.cell? ⟨g,c,none⟩): CT g W':=⟨Nat.lt_of_lt_of_le h.lt hs,(hc 0).trans h.c0,(hc 1).trans h.c1,(hc 2).trans h.c2⟩
theorem CT.below{W W':World}{g:Nat}(h:CT g W)(hb:Below W.heap.size W W'): CT g W':=h.of hb.size fun c=>hb.cell (p:=⟨g,c,none⟩) h.lt
theorem CT.set{W:World}{g:Nat}(h:CT g W){a:Addr}(hne:a.block≠g)(v:Value): CT g (W.setCell a v):=h.of (by simp [World.setCell]) fun c=>qO (by intro e;exact hne (by rw [e]))
def CodeP (w:World) (m wa:Nat) (w':World):Prop:=∃gp cp gs cs gl cl,CP w m wa (.slice (some ⟨gp,0,none⟩) 1 cp) (.slice (some ⟨gs,0,none⟩) 1 cs) (.slice (some ⟨gl,0,none⟩) 1 cl) 1 1 w'∧CT gp w'∧CG gs w'∧CL gl w'∧w.heap.size+5≤gp∧w.heap.size+5≤gs∧w.heap.size+5≤gl∧1≤cs∧1≤cl
theorem cpath_0(m wa q c s:Nat)(w:World)(h:Mk0 w m wa)(hP:Pa w q s): Calls prog 84 #[.pointer (some ⟨m,0,none⟩),.agg #[.bool true,.slice (some ⟨q,0,none⟩) 1 (c:Nat)]] w fun e w'=>e=.returned (.tuple #[])∧CodeP w m wa w':=by
 go_enter func84,ntmps84
 have ql:=hP.lt
 have ql1:q<w.heap.size+1:=oM
 have ql2:q<w.heap.size+1+1:=oM
 have ql3:q<w.heap.size+1+1+1:=oM
 have ql4:q<w.heap.size+1+1+1+1:=oM
 have ql5:q<w.heap.size+1+1+1+1+1:=oM
 have sl:=hP.sl.lt
 have sl1:s<w.heap.size+1:=oM
 have sl2:s<w.heap.size+1+1:=oM
 have sl3:s<w.heap.size+1+1+1:=oM
 have sl4:s<w.heap.size+1+1+1+1:=oM
 have sl5:s<w.heap.size+1+1+1+1+1:=oM
 have q0:=hP.c0;have q1:=hP.c1
 obtain ⟨-,p0,p1,p2,p3,p4,p5,p6,p7,p8⟩ :=hP.sl
 obtain ⟨ml,m0,m1,m2,m3,m4,n0,n1,n2⟩ :=h
 have ml1:m<w.heap.size+1:=oM
 have ml2:m<w.heap.size+1+1:=oM
 have ml3:m<w.heap.size+1+1+1:=oM
 have ml4:m<w.heap.size+1+1+1+1:=oM
 have ml5:m<w.heap.size+1+1+1+1+1:=oM
 go_wp2_with (first|(refine wp_loop_unr 3 ?_;refine Unr.step ?_;intro U hU)|(refine Unr.step ?_;intro U hU))
 go_region
 go_wp2_with (first|(refine wp_loop_unr 3 ?_;refine Unr.step ?_;intro U hU)|(refine Unr.step ?_;intro U hU))
 go_region
 go_wp2_with (first|(refine wp_loop_unr 3 ?_;refine Unr.step ?_;intro U hU)|(refine Unr.step ?_;intro U hU))
 have HC:CP w m wa (.slice none 0 0) (.slice none 0 0) (.slice none 0 0) 0 0 ((((((w.alloc (Obj.cells #[.bool true,.slice (some ⟨q,0,none⟩) 1 c] 118)).alloc (Obj.cells #[.bool true,.int .i64 0,.int .i64 0] 272)).alloc (Obj.cells #[.bool false,.slice (some ⟨s,0,none⟩) 1 1] 269)).alloc (Obj.cells #[.bool false,.int .i64 0,.int .i64 0] 275)).alloc (Obj.cells #[.int .i64 2,.string ⟨#[]⟩,.int .i64 0,.int .i64 0,.int .i64 0,.int .i64 0,.bool false,.bool false,.pointer none] 278)).drew.drew):=⟨Below.gr tq4,ml,by simp,by simp [go_sem, *],by simp [go_sem, *],by simp [go_sem, *],by simp [go_sem, *],by simp [go_sem, *],by simp [go_sem, *],by simp [go_sem, *],by simp [go_sem, *],by simp [go_sem, *],by simp [go_sem, *],by simp [go_sem, *],by simp [go_sem, *],by simp [go_sem, *],by simp [go_sem, *],by simp [go_sem, *],by simp [go_sem, *],by simp [go_sem, *],by simp [go_sem, *],by simp [go_sem, *],by simp [go_sem, *],by simp [go_sem, *],by simp [go_sem, *],by simp [go_sem, *],by simp [go_sem, *],by simp [go_sem, *]⟩
 clear q0 q1 p0 p1 p2 p3 p4 p5 p6 p7 p8 m0 m1 m2 m3 m4 n0 n1 n2 hP
 clear ml1 ql1 sl1
 clear ml2 ql2 sl2
 clear ml3 ql3 sl3
 clear ml4 ql4 sl4
 clear ml5 ql5 sl5
 generalize hW0:(((((w.alloc (Obj.cells #[.bool true,.slice (some ⟨q,0,none⟩) 1 c] 118)).alloc (Obj.cells #[.bool true,.int .i64 0,.int .i64 0] 272)).alloc (Obj.cells #[.bool false,.slice (some ⟨s,0,none⟩) 1 1] 269)).alloc (Obj.cells #[.bool false,.int .i64 0,.int .i64 0] 275)).alloc (Obj.cells #[.int .i64 2,.string ⟨#[]⟩,.int .i64 0,.int .i64 0,.int .i64 0,.int .i64 0,.bool false,.bool false,.pointer none] 278)).drew.drew=W at HC ⊢
 clear hW0
 obtain ⟨-,ml,wl,m0,m1,m2,m3,m4,n0,n1,n2,x0,x1,x2,xf,g0,g1,g2,gf,y0,y1,y2,y3,y4,y5,y6,y7,y8⟩ :=id HC
 have ml0:m<W.heap.size:=oM
 have b10:w.heap.size+1<W.heap.size:=oM
 have b30:w.heap.size+3<W.heap.size:=oM
 have b40:w.heap.size+4<W.heap.size:=oM
 have ml1:m<W.heap.size+1:=oM
 have b11:w.heap.size+1<W.heap.size+1:=oM
 have b31:w.heap.size+3<W.heap.size+1:=oM
 have b41:w.heap.size+4<W.heap.size+1:=oM
 have ml2:m<W.heap.size+1+1:=oM
 have b12:w.heap.size+1<W.heap.size+1+1:=oM
 have b32:w.heap.size+3<W.heap.size+1+1:=oM
 have b42:w.heap.size+4<W.heap.size+1+1:=oM
 have ml3:m<W.heap.size+1+1+1:=oM
 have b13:w.heap.size+1<W.heap.size+1+1+1:=oM
 have b33:w.heap.size+3<W.heap.size+1+1+1:=oM
 have b43:w.heap.size+4<W.heap.size+1+1+1:=oM
 have hs1:∀(W1:World) (hW:Below W.heap.size W W1),Calls prog 155 #[.agg #[.int .i64 2,.string ⟨#[]⟩,.int .i64 0,.int .i64 0,.int .i64 0,.int .i64 0,.bool false,.bool false,.pointer none]] W1 fun e w'=>e=.returned (.agg #[.int .i64 2,.string ⟨#[]⟩,.int .i64 0,.int .i64 0,.int .i64 0,.bool false,.bool false,.int .i64 0])∧Hid (Below W.heap.size W w')∧m<w'.heap.size∧w'.cell? ⟨m,2,none⟩=some (.slice none 0 0)∧w'.frozen? ⟨m,2,none⟩=false:=fun W1 hW=>(csel_0 W1).mono fun e w' ⟨h1,h2⟩ =>have hb:=hW.trans (h2.mono hW.size);⟨h1,hid hb,Nat.lt_of_lt_of_le ml0 hb.size,(hb.cell (p:=⟨m,2,none⟩) ml0).trans m2,(hb.frozen (p:=⟨m,2,none⟩) ml0).trans n2⟩
 obtain ⟨i0,hi0,hz0,hs0,hb0⟩ :=info_parts info317
 apply wp_cut3 (fun gl cl w1 W'=>CP w m wa (.slice none 0 0) (.slice none 0 0) (.slice (some ⟨gl,0,none⟩) 1 cl) 0 0 W'∧CL gl W'∧w.heap.size+5≤gl∧1≤cl)
 ·go_region_law ((first|(go_simp;go_at_call 155;refine (hs1 _ (by first|exact qR|exact qR.drew)).mono ?_;rintro e w1 ⟨rfl,hb,lm,a2,c2⟩)|(refine step_push rfl _ _ 75 rfl 280 i0 _ 8 64 underlying75 hi0 hz0 hs0 hb0 rfl oM (Acc.nil qR 280 8) rfl rfl rfl rfl rfl oM oM ?_;intro gl cl w3 hA;have xa:=(hA.bel.cell (p:=⟨m,2,none⟩) lm).trans a2;have xb:=(hA.bel.frozen (p:=⟨m,2,none⟩) lm).trans c2;have HA:=hid hA;clear hA)))
  all_goals
   have hr:=HA.out.row
   have hc2:=((HC.below hb.out).below HA.out.bel).setM2 (.slice (some ⟨gl,0,none⟩) 1 cl)
   have hne:m≠gl:=by have:=hr.1;omega
   have hlt:=hr.1
   have hbs:=hb.out.size
   have hcl:CL gl w3:=⟨hr.2.1,hr.2.2 0 _ rfl,hr.2.2 1 _ rfl,hr.2.2 2 _ rfl,hr.2.2 3 _ rfl,hr.2.2 4 _ rfl,hr.2.2 5 _ rfl,hr.2.2 6 _ rfl,hr.2.2 7 _ rfl⟩
   exact ⟨gl,cl,w1,rfl,hc2,hcl.set hne _,by have:=HC.wl;omega,by have:=HA.out.cap;omega⟩
 rintro gl cl w1 W ⟨HC1,HL,hgl,hkl⟩
 clear hs1
 clear m0 m1 m2 m3 m4 n0 n1 n2 x0 x1 x2 xf g0 g1 g2 gf y0 y1 y2 y3 y4 y5 y6 y7 y8 HC hi0 hz0 hs0 hb0 i0
 have HC:=HC1
 clear HC1
 obtain ⟨-,ml,wl,m0,m1,m2,m3,m4,n0,n1,n2,x0,x1,x2,xf,g0,g1,g2,gf,y0,y1,y2,y3,y4,y5,y6,y7,y8⟩ :=id HC
 have ml0:m<W.heap.size:=oM
 have b10:w.heap.size+1<W.heap.size:=oM
 have b30:w.heap.size+3<W.heap.size:=oM
 have b40:w.heap.size+4<W.heap.size:=oM
 have ml1:m<W.heap.size+1:=oM
 have b11:w.heap.size+1<W.heap.size+1:=oM
 have b31:w.heap.size+3<W.heap.size+1:=oM
 have b41:w.heap.size+4<W.heap.size+1:=oM
 have ml2:m<W.heap.size+1+1:=oM
 have b12:w.heap.size+1<W.heap.size+1+1:=oM
 have b32:w.heap.size+3<W.heap.size+1+1:=oM
 have b42:w.heap.size+4<W.heap.size+1+1:=oM
 have ml3:m<W.heap.size+1+1+1:=oM
 have b13:w.heap.size+1<W.heap.size+1+1+1:=oM
 have b33:w.heap.size+3<W.heap.size+1+1+1:=oM
 have b43:w.heap.size+4<W.heap.size+1+1+1:=oM
 obtain ⟨i0,hi0,hz0,hs0,hb0⟩ :=info_parts info265
 go_wp2_with (first|(at_builtin;(refine wpList_push rfl _ _ 273 rfl 276 i0 _ 1 8 underlying273 hi0 hz0 hs0 hb0 rfl oM (Acc.nil qR 276 1) rfl rfl sM rfl rfl oM oM ?_;intro gh ch w3 hA;have hr:=hA.row;have HC2:=HC.below hA.bel;have HL2:=HL.below hA.bel;have HF:CF gh w3:=⟨hr.2.1,hr.2.2 0 _ rfl⟩;have:w.heap.size+5≤gh:=(by have:=hr.1;omega);clear hr hA m0 m1 m2 m3 m4 n0 n1 n2 x0 x1 x2 xf g0 g1 g2 gf y0 y1 y2 y3 y4 y5 y6 y7 y8 ml wl ml0 b10 b30 b40 ml1 b11 b31 b41 ml2 b12 b32 b42 ml3 b13 b33 b43 HC HL hi0 hz0 hs0 hb0 i0;have HC:=HC2;have HL:=HL2;clear HC2 HL2;obtain ⟨-,ml,wl,m0,m1,m2,m3,m4,n0,n1,n2,x0,x1,x2,xf,g0,g1,g2,gf,y0,y1,y2,y3,y4,y5,y6,y7,y8⟩ :=id HC;have ml0:m<w3.heap.size:=oM;have b10:w.heap.size+1<w3.heap.size:=oM;have b30:w.heap.size+3<w3.heap.size:=oM;have b40:w.heap.size+4<w3.heap.size:=oM;have ml1:m<w3.heap.size+1:=oM;have b11:w.heap.size+1<w3.heap.size+1:=oM;have b31:w.heap.size+3<w3.heap.size+1:=oM;have b41:w.heap.size+4<w3.heap.size+1:=oM;have ml2:m<w3.heap.size+1+1:=oM;have b12:w.heap.size+1<w3.heap.size+1+1:=oM;have b32:w.heap.size+3<w3.heap.size+1+1:=oM;have b42:w.heap.size+4<w3.heap.size+1+1:=oM;have ml3:m<w3.heap.size+1+1+1:=oM;have b13:w.heap.size+1<w3.heap.size+1+1+1:=oM;have b33:w.heap.size+3<w3.heap.size+1+1+1:=oM;have b43:w.heap.size+4<w3.heap.size+1+1+1:=oM))|(refine wp_loop_unr 3 ?_;refine Unr.step ?_;intro U hU)|(refine Unr.step ?_;intro U hU))
 have HC2:CP w m wa (.slice none 0 0) (.slice none 0 0) (.slice (some ⟨gl,0,none⟩) 1 cl) 1 0 (w3.setCell ⟨w.heap.size+1+1+1,2,none⟩ (.int .i64 1)):=HC.setG 1
 have HL2:=HL.set (a:=(⟨w.heap.size+1+1+1,2,none⟩:Addr)) (v:=.int .i64 1) (by show w.heap.size+1+1+1≠gl;omega)
 have HF2:=HF.set (a:=(⟨w.heap.size+1+1+1,2,none⟩:Addr)) (v:=.int .i64 1) (by show w.heap.size+1+1+1≠gh;omega)
 clear HC HL HF
 have HC:=HC2
 have HL:=HL2
 have HF:=HF2
 clear HC2 HL2 HF2
 clear m0 m1 m2 m3 m4 n0 n1 n2 x0 x1 x2 xf g0 g1 g2 gf y0 y1 y2 y3 y4 y5 y6 y7 y8 ml wl ml0 b10 b30 b40 ml1 b11 b31 b41 ml2 b12 b32 b42 ml3 b13 b33 b43
 generalize hWW:w3.setCell ⟨w.heap.size+1+1+1,2,none⟩ (.int .i64 1)=W at HC HL HF ⊢
 clear hWW
 obtain ⟨-,ml,wl,m0,m1,m2,m3,m4,n0,n1,n2,x0,x1,x2,xf,g0,g1,g2,gf,y0,y1,y2,y3,y4,y5,y6,y7,y8⟩ :=id HC
 have ml0:m<W.heap.size:=oM
 have b10:w.heap.size+1<W.heap.size:=oM
 have b30:w.heap.size+3<W.heap.size:=oM
 have b40:w.heap.size+4<W.heap.size:=oM
 have ml1:m<W.heap.size+1:=oM
 have b11:w.heap.size+1<W.heap.size+1:=oM
 have b31:w.heap.size+3<W.heap.size+1:=oM
 have b41:w.heap.size+4<W.heap.size+1:=oM
 have ml2:m<W.heap.size+1+1:=oM
 have b12:w.heap.size+1<W.heap.size+1+1:=oM
 have b32:w.heap.size+3<W.heap.size+1+1:=oM
 have b42:w.heap.size+4<W.heap.size+1+1:=oM
 have ml3:m<W.heap.size+1+1+1:=oM
 have b13:w.heap.size+1<W.heap.size+1+1+1:=oM
 have b33:w.heap.size+3<W.heap.size+1+1+1:=oM
 have b43:w.heap.size+4<W.heap.size+1+1+1:=oM
 obtain ⟨i0,hi0,hz0,hs0,hb0⟩ :=info_parts info314
 apply wp_cut2 (fun gn cn W'=>CP w m wa (.slice none 0 0) (.slice (some ⟨gn,0,none⟩) 1 cn) (.slice (some ⟨gl,0,none⟩) 1 cl) 1 0 W'∧CL gl W'∧CF gh W'∧CG gn W'∧w.heap.size+5≤gn∧1≤cn)
 ·go_region_law ((first|((first|refine step_push rfl _ _ 74 rfl 275 i0 _ 3 24 underlying74 hi0 hz0 hs0 hb0 rfl oM (Acc.nil qR 275 3) rfl rfl rfl rfl rfl oM oM ?_|refine step_push_d rfl _ _ 74 rfl 275 i0 _ 3 24 underlying74 hi0 hz0 hs0 hb0 rfl oM (Acc.nil qR 275 3) rfl rfl rfl rfl rfl oM oM ?_);intro gn cn w3 hA;have xa:=(hA.bel.cell (p:=⟨m,1,none⟩) ml0).trans m1;have xb:=(hA.bel.frozen (p:=⟨m,1,none⟩) ml0).trans n1;have HA:=hid hA;clear hA)))
  all_goals
   have hr:=HA.out.row
   have hbl:Below W.heap.size W w3:=(by first|exact HA.out.bel|exact ⟨HA.out.bel.os,HA.out.bel.tape,HA.out.bel.output,HA.out.bel.size,HA.out.bel.block⟩)
   have hlt:W.heap.size≤gn:=hr.1
   have hrow:CG gn w3:=⟨hr.2.1,hr.2.2 0 _ rfl,hr.2.2 1 _ rfl,hr.2.2 2 _ rfl⟩
   exact ⟨gn,cn,rfl,(HC.below hbl).setM1 _,(HL.below hbl).set (by show m≠gl;omega) _,(HF.below hbl).set (by show m≠gh;omega) _,hrow.set (by show m≠gn;omega) _,by omega,by have:=HA.out.cap;omega⟩
 clear HC HL HF m0 m1 m2 m3 m4 n0 n1 n2 x0 x1 x2 xf g0 g1 g2 gf y0 y1 y2 y3 y4 y5 y6 y7 y8 ml wl ml0 b10 b30 b40 ml1 b11 b31 b41 ml2 b12 b32 b42 ml3 b13 b33 b43
 rintro gs cs W ⟨HC,HL,HF,HG,hgs,hks⟩
 obtain ⟨-,ml,wl,m0,m1,m2,m3,m4,n0,n1,n2,x0,x1,x2,xf,g0,g1,g2,gf,y0,y1,y2,y3,y4,y5,y6,y7,y8⟩ :=id HC
 have ml0:m<W.heap.size:=oM
 have b10:w.heap.size+1<W.heap.size:=oM
 have b30:w.heap.size+3<W.heap.size:=oM
 have b40:w.heap.size+4<W.heap.size:=oM
 have ml1:m<W.heap.size+1:=oM
 have b11:w.heap.size+1<W.heap.size+1:=oM
 have b31:w.heap.size+3<W.heap.size+1:=oM
 have b41:w.heap.size+4<W.heap.size+1:=oM
 have ml2:m<W.heap.size+1+1:=oM
 have b12:w.heap.size+1<W.heap.size+1+1:=oM
 have b32:w.heap.size+3<W.heap.size+1+1:=oM
 have b42:w.heap.size+4<W.heap.size+1+1:=oM
 have ml3:m<W.heap.size+1+1+1:=oM
 have b13:w.heap.size+1<W.heap.size+1+1+1:=oM
 have b33:w.heap.size+3<W.heap.size+1+1+1:=oM
 have b43:w.heap.size+4<W.heap.size+1+1+1:=oM
 go_wp2_with (first|(refine wp_loop_unr 3 ?_;refine Unr.step ?_;intro U hU)|(refine Unr.step ?_;intro U hU))
 have HC2:CP w m wa (.slice none 0 0) (.slice (some ⟨gs,0,none⟩) 1 cs) (.slice (some ⟨gl,0,none⟩) 1 cl) 1 1 (W.setCell ⟨w.heap.size+1,2,none⟩ (.int .i64 1)):=HC.setX 1
 have HL2:=HL.set (a:=(⟨w.heap.size+1,2,none⟩:Addr)) (v:=.int .i64 1) (by show w.heap.size+1≠gl;omega)
 have HF2:=HF.set (a:=(⟨w.heap.size+1,2,none⟩:Addr)) (v:=.int .i64 1) (by show w.heap.size+1≠gh;omega)
 have HG2:=HG.set (a:=(⟨w.heap.size+1,2,none⟩:Addr)) (v:=.int .i64 1) (by show w.heap.size+1≠gs;omega)
 clear HC HL HF HG
 have HC:=HC2
 have HL:=HL2
 have HF:=HF2
 have HG:=HG2
 clear HC2 HL2 HF2 HG2
 clear m0 m1 m2 m3 m4 n0 n1 n2 x0 x1 x2 xf g0 g1 g2 gf y0 y1 y2 y3 y4 y5 y6 y7 y8 ml wl ml0 b10 b30 b40 ml1 b11 b31 b41 ml2 b12 b32 b42 ml3 b13 b33 b43
 generalize hWW:W.setCell ⟨w.heap.size+1,2,none⟩ (.int .i64 1)=W at HC HL HF HG ⊢
 clear hWW
 obtain ⟨-,ml,wl,m0,m1,m2,m3,m4,n0,n1,n2,x0,x1,x2,xf,g0,g1,g2,gf,y0,y1,y2,y3,y4,y5,y6,y7,y8⟩ :=id HC
 have ml0:m<W.heap.size:=oM
 have b10:w.heap.size+1<W.heap.size:=oM
 have b30:w.heap.size+3<W.heap.size:=oM
 have b40:w.heap.size+4<W.heap.size:=oM
 have ml1:m<W.heap.size+1:=oM
 have b11:w.heap.size+1<W.heap.size+1:=oM
 have b31:w.heap.size+3<W.heap.size+1:=oM
 have b41:w.heap.size+4<W.heap.size+1:=oM
 have ml2:m<W.heap.size+1+1:=oM
 have b12:w.heap.size+1<W.heap.size+1+1:=oM
 have b32:w.heap.size+3<W.heap.size+1+1:=oM
 have b42:w.heap.size+4<W.heap.size+1+1:=oM
 have ml3:m<W.heap.size+1+1+1:=oM
 have b13:w.heap.size+1<W.heap.size+1+1+1:=oM
 have b33:w.heap.size+3<W.heap.size+1+1+1:=oM
 have b43:w.heap.size+4<W.heap.size+1+1+1:=oM
 obtain ⟨i0,hi0,hz0,hs0,hb0⟩ :=info_parts info311
 apply wp_cut2 (fun gn cn W'=>CP w m wa (.slice (some ⟨gn,0,none⟩) 1 cn) (.slice (some ⟨gs,0,none⟩) 1 cs) (.slice (some ⟨gl,0,none⟩) 1 cl) 1 1 W'∧CL gl W'∧CF gh W'∧CG gs W'∧CT gn W'∧w.heap.size+5≤gn∧1≤cn)
 ·go_region_law ((first|((first|refine step_push rfl _ _ 73 rfl 272 i0 _ 3 24 underlying73 hi0 hz0 hs0 hb0 rfl oM (Acc.nil qR 272 3) rfl rfl rfl rfl rfl oM oM ?_|refine step_push_d rfl _ _ 73 rfl 272 i0 _ 3 24 underlying73 hi0 hz0 hs0 hb0 rfl oM (Acc.nil qR 272 3) rfl rfl rfl rfl rfl oM oM ?_);intro gn cn w3 hA;have xa:=(hA.bel.cell (p:=⟨m,0,none⟩) ml0).trans m0;have xb:=(hA.bel.frozen (p:=⟨m,0,none⟩) ml0).trans n0;have HA:=hid hA;clear hA)))
  all_goals
   have hr:=HA.out.row
   have hbl:Below W.heap.size W w3:=(by first|exact HA.out.bel|exact ⟨HA.out.bel.os,HA.out.bel.tape,HA.out.bel.output,HA.out.bel.size,HA.out.bel.block⟩)
   have hlt:W.heap.size≤gn:=hr.1
   have hrow:CT gn w3:=⟨hr.2.1,hr.2.2 0 _ rfl,hr.2.2 1 _ rfl,hr.2.2 2 _ rfl⟩
   exact ⟨gn,cn,rfl,(HC.below hbl).setM0 _,(HL.below hbl).set (by show m≠gl;omega) _,(HF.below hbl).set (by show m≠gh;omega) _,(HG.below hbl).set (by show m≠gs;omega) _,hrow.set (by show m≠gn;omega) _,by omega,by have:=HA.out.cap;omega⟩
 clear HC HL HF HG m0 m1 m2 m3 m4 n0 n1 n2 x0 x1 x2 xf g0 g1 g2 gf y0 y1 y2 y3 y4 y5 y6 y7 y8 ml wl ml0 b10 b30 b40 ml1 b11 b31 b41 ml2 b12 b32 b42 ml3 b13 b33 b43
 rintro gp cp W ⟨HC,HL,HF,HG,HT,hgp,hkp⟩
 obtain ⟨-,ml,wl,m0,m1,m2,m3,m4,n0,n1,n2,x0,x1,x2,xf,g0,g1,g2,gf,y0,y1,y2,y3,y4,y5,y6,y7,y8⟩ :=id HC
 have ml0:m<W.heap.size:=oM
 have b10:w.heap.size+1<W.heap.size:=oM
 have b30:w.heap.size+3<W.heap.size:=oM
 have b40:w.heap.size+4<W.heap.size:=oM
 have ml1:m<W.heap.size+1:=oM
 have b11:w.heap.size+1<W.heap.size+1:=oM
 have b31:w.heap.size+3<W.heap.size+1:=oM
 have b41:w.heap.size+4<W.heap.size+1:=oM
 have ml2:m<W.heap.size+1+1:=oM
 have b12:w.heap.size+1<W.heap.size+1+1:=oM
 have b32:w.heap.size+3<W.heap.size+1+1:=oM
 have b42:w.heap.size+4<W.heap.size+1+1:=oM
 have ml3:m<W.heap.size+1+1+1:=oM
 have b13:w.heap.size+1<W.heap.size+1+1+1:=oM
 have b33:w.heap.size+3<W.heap.size+1+1+1:=oM
 have b43:w.heap.size+4<W.heap.size+1+1+1:=oM
 have F0:=HF.c0;have FL:=HF.lt
 go_wp2_with (first|(refine wp_loop_unr 3 ?_;refine Unr.step ?_;intro U hU)|(refine Unr.step ?_;intro U hU))
 refine bodyPost_end (v:=.tuple #[]) (by simp [results,results84,go_sem]) rfl ⟨rfl,gp,cp,gs,cs,gl,cl,HC.below tq4,HT.below tq4,HG.below tq4,HL.below tq4,hgp,hgs,hgl,hks,hkl⟩
end
end Go.Proofs.YtjcioljdlfdnbaaGreatDoor
