/- Part 19: lemmas for TopNumber; no conditions. -/
import Derived.Test.YtjcioljdlfdnbaaGreatDoorH16
import Derived.Test.YtjcioljdlfdnbaaGreatDoorH18
import Derived.Test.YtjcioljdlfdnbaaGreatDoorH40
set_option linter.unusedVariables false
set_option linter.unusedSimpArgs false
set_option maxRecDepth 100000
set_option maxHeartbeats 2000000
open Go.Proofs.Tryz
namespace Go.Proofs.YtjcioljdlfdnbaaGreatDoor
section
open Go.RowKit
theorem meet_0(gp cp gs cs gl cl p m a:Nat)(fd:Value)(mo:Int)(w:World)(hW:Wk m (.slice none 0 0) fd mo a w)(hM:Mc gp cp gs cs gl cl p 0 m w)(hC:Cd gp gs gl w): Calls prog 224 #[.pointer (some ⟨a,0,none⟩),.int .i64 0,.agg #[.pointer (some ⟨p,0,none⟩),.int .i64 (-1)]] w fun e w'=>DownP w a p e w':=by
 go_enter func224,ntmps224
 have alt:=hW.lt
 have:a<w.heap.size+1:=oM
 have:a<w.heap.size+1+1:=oM
 have:a<w.heap.size+1+1+1:=oM
 have:a<w.heap.size+1+1+1+1:=oM
 have:a<w.heap.size+1+1+1+1+1:=oM
 have:a<w.heap.size+1+1+1+1+1+1:=oM
 have:a<w.heap.size+1+1+1+1+1+1+1:=oM
 have aw0:=hW.c0
 have aw1:=hW.c1
 have aw2:=hW.c2
 have aw3:=hW.c3
 have aw4:=hW.c4
 have aw5:=hW.c5
 have aw6:=hW.c6
 have aw7:=hW.c7
 have awz4:=hW.z4
 have awz5:=hW.z5
 have awz7:=hW.z7
 have mlt:=hM.lt
 have:m<w.heap.size+1:=oM
 have:m<w.heap.size+1+1:=oM
 have:m<w.heap.size+1+1+1:=oM
 have:m<w.heap.size+1+1+1+1:=oM
 have:m<w.heap.size+1+1+1+1+1:=oM
 have:m<w.heap.size+1+1+1+1+1+1:=oM
 have:m<w.heap.size+1+1+1+1+1+1+1:=oM
 have m0:=hM.c0
 have m1:=hM.c1
 have m2:=hM.c2
 have m3:=hM.c3
 have m4:=hM.c4
 have m5:=hM.c5
 have m6:=hM.c6
 have mz6:=hM.z6
 go_wp2_with fail
 refine (down_0 gp cp gs cs gl cl p m a fd mo _ (hW.below tq4) (hM.below tq4) (hC.below tq4)).mono ?_;rintro e w1 ⟨rfl,g,c,W1,rfl,hb,hg,hF⟩
 have HB:=bel_step (w:=w) tq4 hb
 simp at hg
 go_wp2_with fail
 try simp only [Exit.inBlock,Exit.then]
 exact bodyPost_ret (v:=.tuple #[]) (by simp [results,results224,go_sem]) rfl ⟨rfl,g,c,W1,rfl,HB.out,by omega,hF⟩
def MeetP (w:World) (a p:Nat) (e:Ending) (w':World):Prop:=e=.returned (.tuple #[])∧∃g c W1,w'=World.setCell W1 ⟨a,5,none⟩ (.slice (some ⟨g,0,none⟩) 1 c)∧Below w.heap.size w W1∧w.heap.size≤g∧Cw p g W1
theorem meet_1(p m a:Nat)(st:Value)(mo:Int)(hmo:1≤mo)(w:World)(hW:Wk m st (.slice none 0 0) mo a w): Calls prog 224 #[.pointer (some ⟨a,0,none⟩),.int .i64 1,.agg #[.pointer (some ⟨p,0,none⟩),.int .i64 1]] w fun e w'=>MeetP w a p e w':=by
 obtain ⟨i0,hi0,hz0,hs0,hb0⟩ :=info_parts info139
 have:¬mo<1:=oM
 go_enter func224,ntmps224
 have alt:=hW.lt
 have:a<w.heap.size+1:=oM
 have:a<w.heap.size+1+1:=oM
 have:a<w.heap.size+1+1+1:=oM
 have:a<w.heap.size+1+1+1+1:=oM
 have:a<w.heap.size+1+1+1+1+1:=oM
 have:a<w.heap.size+1+1+1+1+1+1:=oM
 have:a<w.heap.size+1+1+1+1+1+1+1:=oM
 have aw0:=hW.c0
 have aw1:=hW.c1
 have aw2:=hW.c2
 have aw3:=hW.c3
 have aw4:=hW.c4
 have aw5:=hW.c5
 have aw6:=hW.c6
 have aw7:=hW.c7
 have awz4:=hW.z4
 have awz5:=hW.z5
 have awz7:=hW.z7
 go_wp2_with fail
 go_region_law ((first|((first|refine step_push rfl _ _ 122 rfl 128 i0 _ 2 16 underlying122 hi0 hz0 hs0 hb0 rfl oM (Acc.nil qR 128 2) rfl rfl (by first|rfl|simp) rfl rfl oM oM ?_|refine step_push_d rfl _ _ 122 rfl 128 i0 _ 2 16 underlying122 hi0 hz0 hs0 hb0 rfl oM (Acc.nil qR 128 2) rfl rfl (by first|rfl|simp) rfl rfl oM oM ?_|refine step_push_dd rfl _ _ 122 rfl 128 i0 _ 2 16 underlying122 hi0 hz0 hs0 hb0 rfl oM (Acc.nil qR 128 2) rfl rfl (by first|rfl|simp) rfl rfl oM oM ?_|refine step_push_d3 rfl _ _ 122 rfl 128 i0 _ 2 16 underlying122 hi0 hz0 hs0 hb0 rfl oM (Acc.nil qR 128 2) rfl rfl (by first|rfl|simp) rfl rfl oM oM ?_);intro gn cn w3 hA;have xa:=hA.bel.cl a 5;have xb:=hA.bel.fz a 5;simp [go_sem, *] at xa xb;have xc:=hA.bel.cl a 6;(simp [go_sem, *] at xc);have HA:=hid hA;have HB:=bel_step (w:=w) tq4 hA.bel;clear hA)))
 all_goals have hr:=HA.out.row
 all_goals have hr1:=hr.1
 all_goals simp at hr1
 all_goals have hg:=hr.2.1
 all_goals have hCw:Hid (Cw p gn w3):=hid ⟨hr.2.1,hr.2.2 0 _ rfl,hr.2.2 1 _ rfl⟩
 all_goals clear hr HA
 all_goals go_wp2
 all_goals go_region
 all_goals go_wp2
 all_goals exact bodyPost_end (v:=.tuple #[]) (by simp [results,results224,go_sem]) rfl ⟨rfl,gn,cn,w3.drew,rfl,HB.out.drew,by omega,hCw.out.below qR.drew⟩
def ChildP (w:World) (m a p:Nat) (e:Ending) (w':World):Prop:=e=.returned (.tuple #[])∧∃g c W1,w'=World.setCell W1 ⟨a,5,none⟩ (.slice (some ⟨g,0,none⟩) 1 c)∧Below w.heap.size (w.setCell ⟨m,6,none⟩ (.int .i64 1)) W1∧w.heap.size≤g∧Cw p g W1
theorem child_0(gp cp gs cs gl cl p m a:Nat)(st:Value)(mo:Int)(hmo:1≤mo)(ham:a≠m)(w:World)(hW:Wk m st (.slice none 0 0) mo a w)(hM:Mc gp cp gs cs gl cl p 0 m w)(hC:Cd gp gs gl w): Calls prog 226 #[.pointer (some ⟨a,0,none⟩),.int .i64 0,.int .i64 0,.agg #[.pointer (some ⟨p,0,none⟩),.int .i64 1]] w fun e w'=>ChildP w m a p e w':=by
 go_enter func226,ntmps226
 have alt:=hW.lt
 have:a<w.heap.size+1:=oM
 have:a<w.heap.size+1+1:=oM
 have:a<w.heap.size+1+1+1:=oM
 have:a<w.heap.size+1+1+1+1:=oM
 have:a<w.heap.size+1+1+1+1+1:=oM
 have:a<w.heap.size+1+1+1+1+1+1:=oM
 have:a<w.heap.size+1+1+1+1+1+1+1:=oM
 have aw0:=hW.c0
 have aw1:=hW.c1
 have aw2:=hW.c2
 have aw3:=hW.c3
 have aw4:=hW.c4
 have aw5:=hW.c5
 have aw6:=hW.c6
 have aw7:=hW.c7
 have awz4:=hW.z4
 have awz5:=hW.z5
 have awz7:=hW.z7
 have mlt:=hM.lt
 have:m<w.heap.size+1:=oM
 have:m<w.heap.size+1+1:=oM
 have:m<w.heap.size+1+1+1:=oM
 have:m<w.heap.size+1+1+1+1:=oM
 have:m<w.heap.size+1+1+1+1+1:=oM
 have:m<w.heap.size+1+1+1+1+1+1:=oM
 have:m<w.heap.size+1+1+1+1+1+1+1:=oM
 have m0:=hM.c0
 have m1:=hM.c1
 have m2:=hM.c2
 have m3:=hM.c3
 have m4:=hM.c4
 have m5:=hM.c5
 have m6:=hM.c6
 have mz6:=hM.z6
 have:gp<w.heap.size:=by have:=hC.p.lt;omega
 have:gp<w.heap.size+1:=by have:=hC.p.lt;omega
 have:gp<w.heap.size+1+1:=by have:=hC.p.lt;omega
 have:gp<w.heap.size+1+1+1:=by have:=hC.p.lt;omega
 have:gp<w.heap.size+1+1+1+1:=by have:=hC.p.lt;omega
 have:gp<w.heap.size+1+1+1+1+1:=by have:=hC.p.lt;omega
 have:gp<w.heap.size+1+1+1+1+1+1:=by have:=hC.p.lt;omega
 have:gp<w.heap.size+1+1+1+1+1+1+1:=by have:=hC.p.lt;omega
 have:gs<w.heap.size:=by have:=hC.s.lt;omega
 have:gs<w.heap.size+1:=by have:=hC.s.lt;omega
 have:gs<w.heap.size+1+1:=by have:=hC.s.lt;omega
 have:gs<w.heap.size+1+1+1:=by have:=hC.s.lt;omega
 have:gs<w.heap.size+1+1+1+1:=by have:=hC.s.lt;omega
 have:gs<w.heap.size+1+1+1+1+1:=by have:=hC.s.lt;omega
 have:gs<w.heap.size+1+1+1+1+1+1:=by have:=hC.s.lt;omega
 have:gs<w.heap.size+1+1+1+1+1+1+1:=by have:=hC.s.lt;omega
 have:gl<w.heap.size:=by have:=hC.l.lt;omega
 have:gl<w.heap.size+1:=by have:=hC.l.lt;omega
 have:gl<w.heap.size+1+1:=by have:=hC.l.lt;omega
 have:gl<w.heap.size+1+1+1:=by have:=hC.l.lt;omega
 have:gl<w.heap.size+1+1+1+1:=by have:=hC.l.lt;omega
 have:gl<w.heap.size+1+1+1+1+1:=by have:=hC.l.lt;omega
 have:gl<w.heap.size+1+1+1+1+1+1:=by have:=hC.l.lt;omega
 have:gl<w.heap.size+1+1+1+1+1+1+1:=by have:=hC.l.lt;omega
 have dp0:=hC.p.c0
 have dp1:=hC.p.c1
 have dp2:=hC.p.c2
 have ds0:=hC.s.c0
 have ds1:=hC.s.c1
 have ds2:=hC.s.c2
 have dl0:=hC.l.c0
 have dl1:=hC.l.c1
 have dl2:=hC.l.c2
 have dl3:=hC.l.c3
 have dl4:=hC.l.c4
 have dl5:=hC.l.c5
 have dl6:=hC.l.c6
 have dl7:=hC.l.c7
 go_wp2_with (first|(go_at_call 228;refine (vstep_0 gp cp gs cs gl cl p m _ (hM.below tq4)).mono ?_;rintro e w9 ⟨rfl,rfl⟩))
 refine (meet_1 p m a st mo hmo _ ((hW.set (a:=⟨m,6,none⟩) (by show m≠a;omega) _).below (qR.alloc qL _))).mono ?_;rintro e w2 ⟨rfl,g,c,W1,rfl,hb,hg,hF⟩
 have HB:Hid (Below w.heap.size (w.setCell ⟨m,6,none⟩ (.int .i64 1)) W1):=hid (((Below.refl w.heap.size (w.setCell ⟨m,6,none⟩ (.int .i64 1))).alloc (by simp [World.setCell]) _).trans (hb.mono (by simp [World.setCell])))
 simp [World.setCell] at hg
 go_wp2_with fail
 exact bodyPost_end (v:=.tuple #[]) (by simp [results,results226,go_sem]) rfl ⟨rfl,g,c,W1,rfl,HB.out,by omega,hF⟩
theorem after_0(p n L:Nat)(T V:ByteArray)(hD:Doc T V n L)(w:World)(h:Ix w p T n): Calls prog 227 #[.agg #[.pointer (some ⟨p,0,none⟩),.int .i64 (-1)],.agg #[.pointer (some ⟨p,0,none⟩),.int .i64 (-1)]] w fun e w'=>e=.returned (.tuple #[.agg #[.pointer (some ⟨p,0,none⟩),.int .i64 1],.bool true])∧Below w.heap.size w w':=by
 go_enter func227,ntmps227
 go_wp2_with fail
 refine (first_r p n L T V hD _ (h.below tq4)).mono ?_;rintro e w1 ⟨rfl,hb1⟩
 have s1:=hb1.size;try simp at s1
 try (have:w.heap.size<w1.heap.size:=oM)
 try (have:w.heap.size<w1.heap.size+1:=oM)
 try (have:w.heap.size<w1.heap.size+1+1:=oM)
 try (have:w.heap.size+1<w1.heap.size:=oM)
 try (have:w.heap.size+1<w1.heap.size+1:=oM)
 try (have:w.heap.size+1<w1.heap.size+1+1:=oM)
 try (have:w.heap.size+2<w1.heap.size:=oM)
 try (have:w.heap.size+2<w1.heap.size+1:=oM)
 try (have:w.heap.size+2<w1.heap.size+1+1:=oM)
 try (have e1_0_0_0:=hb1.cl w.heap.size 0;simp [go_sem, *] at e1_0_0_0)
 try (have f1_0_0_0:=hb1.fz w.heap.size 0;simp [go_sem, *] at f1_0_0_0)
 try (have e1_0_0_1:=hb1.cl w.heap.size 1;simp [go_sem, *] at e1_0_0_1)
 try (have f1_0_0_1:=hb1.fz w.heap.size 1;simp [go_sem, *] at f1_0_0_1)
 try (have e1_0_1_0:=hb1.cl (w.heap.size+1) 0;simp [go_sem, *] at e1_0_1_0)
 try (have f1_0_1_0:=hb1.fz (w.heap.size+1) 0;simp [go_sem, *] at f1_0_1_0)
 try (have e1_0_1_1:=hb1.cl (w.heap.size+1) 1;simp [go_sem, *] at e1_0_1_1)
 try (have f1_0_1_1:=hb1.fz (w.heap.size+1) 1;simp [go_sem, *] at f1_0_1_1)
 try (have e1_0_2_0:=hb1.cl (w.heap.size+2) 0;simp [go_sem, *] at e1_0_2_0)
 try (have f1_0_2_0:=hb1.fz (w.heap.size+2) 0;simp [go_sem, *] at f1_0_2_0)
 try (have e1_0_2_1:=hb1.cl (w.heap.size+2) 1;simp [go_sem, *] at e1_0_2_1)
 try (have f1_0_2_1:=hb1.fz (w.heap.size+2) 1;simp [go_sem, *] at f1_0_2_1)
 have HB1:=bel_step (w:=w) tq4 hb1
 clear hb1
 go_wp2_with fail
 try simp only [Exit.inBlock,Exit.then]
 refine bodyPost_ret (v:=.tuple #[.agg #[.pointer (some ⟨p,0,none⟩),.int .i64 1],.bool true]) (by simp [results,results227,go_sem, *]) rfl ⟨rfl,tq4⟩
theorem none_0(w:World): Calls prog 325 #[] w fun e w'=>e=.returned (.tuple #[.agg #[.pointer none,.int .i64 0],.bool false])∧Below w.heap.size w w':=by
 go_enter func325,ntmps325
 go_wp2_with fail
 try simp only [Exit.inBlock,Exit.then]
 refine bodyPost_ret (v:=.tuple #[.agg #[.pointer none,.int .i64 0],.bool false]) (by simp [results,results325,go_sem, *]) rfl ⟨rfl,tq4⟩
theorem listed_0(g:Nat)(w:World): Calls prog 284 #[.slice (some ⟨g,0,none⟩) 1 1] w fun e w'=>e=.returned (.func (.func 324) #[] #[.pointer (some ⟨w.heap.size,0,none⟩)])∧w'=w.alloc (.cells #[.slice (some ⟨g,0,none⟩) 1 1] 122):=by
 go_enter func284,ntmps284
 go_wp2_with fail
 go_ret
 exact ⟨rfl,rfl⟩
theorem lst_1(p bx g:Nat)(w:World)(hx:bx<w.heap.size)(hc:w.cell? ⟨bx,0,none⟩=some (.slice (some ⟨g,0,none⟩) 1 1))(hf:w.frozen? ⟨bx,0,none⟩=false)(hg:Cw p g w): Calls prog 324 #[.pointer (some ⟨bx,0,none⟩)] w fun e w'=>e=.returned (.tuple #[.agg #[.pointer (some ⟨p,0,none⟩),.int .i64 1],.bool true])∧Below w.heap.size (w.setCell ⟨bx,0,none⟩ (.slice (some ⟨g,0,none⟩) 0 0)) w':=by
 have hg0:=hg.lt
 have g0:=hg.c0
 have g1:=hg.c1
 have:bx<w.heap.size+1:=oM
 have:g<w.heap.size+1:=oM
 have:bx<w.heap.size+1+1:=oM
 have:g<w.heap.size+1+1:=oM
 have:bx<w.heap.size+1+1+1:=oM
 have:g<w.heap.size+1+1+1:=oM
 go_enter func324,ntmps324
 go_wp2_with fail
 try simp only [Exit.inBlock,Exit.then]
 refine bodyPost_ret (v:=.tuple #[.agg #[.pointer (some ⟨p,0,none⟩),.int .i64 1],.bool true]) (by simp [results,results324,go_sem, *]) rfl ⟨rfl,tq4⟩
theorem lst_2(bx g:Nat)(w:World)(hx:bx<w.heap.size)(hc:w.cell? ⟨bx,0,none⟩=some (.slice (some ⟨g,0,none⟩) 0 0)): Calls prog 324 #[.pointer (some ⟨bx,0,none⟩)] w fun e w'=>e=.returned (.tuple #[.agg #[.pointer none,.int .i64 0],.bool false])∧Below w.heap.size w w':=by
 have:bx<w.heap.size+1:=oM
 have:bx<w.heap.size+1+1:=oM
 have:bx<w.heap.size+1+1+1:=oM
 go_enter func324,ntmps324
 go_wp2_with fail
 refine (none_0 _).mono ?_;rintro e w1 ⟨rfl,hb1⟩
 have s1:=hb1.size;try simp at s1
 try (have:w.heap.size<w1.heap.size:=oM)
 try (have:w.heap.size<w1.heap.size+1:=oM)
 try (have:w.heap.size<w1.heap.size+1+1:=oM)
 try (have e1_0_0_0:=hb1.cl w.heap.size 0;simp [go_sem, *] at e1_0_0_0)
 try (have f1_0_0_0:=hb1.fz w.heap.size 0;simp [go_sem, *] at f1_0_0_0)
 try (have e1_0_0_1:=hb1.cl w.heap.size 1;simp [go_sem, *] at e1_0_0_1)
 try (have f1_0_0_1:=hb1.fz w.heap.size 1;simp [go_sem, *] at f1_0_0_1)
 have HB1:=bel_step (w:=w) tq4 hb1
 clear hb1
 go_wp2_with fail
 try simp only [Exit.inBlock,Exit.then]
 refine bodyPost_ret (v:=.tuple #[.agg #[.pointer none,.int .i64 0],.bool false]) (by simp [results,results324,go_sem, *]) rfl ⟨rfl,tq4⟩
def ToldP (w:World) (p:Nat) (e:Ending) (w':World):Prop:=∃W:World,e=.returned (.func (.func 324) #[] #[.pointer (some ⟨W.heap.size+1,0,none⟩)])∧w'=(W.alloc (.cells #[.pointer (some ⟨p,0,none⟩),.int .i64 1] 128)).alloc (.cells #[.slice (some ⟨W.heap.size,0,none⟩) 1 1] 122)∧Below w.heap.size w W
theorem index_0(p n L:Nat)(T V:ByteArray)(hD:Doc T V n L)(w:World)(h:Ix w p T n): Calls prog 287 #[.agg #[.pointer (some ⟨p,0,none⟩),.int .i64 (-1)],.int .i64 0] w fun e w'=>ToldP w p e w':=by
 have hn:=hD.n3
 have hn1:=hD.n1
 have hL:=hD.hL
 have hs:=hD.hn
 have hv:=hD.vs
 go_enter func287,ntmps287
 go_wp2_with fail
 refine (cchild_r p n L T V hD _ (h.below tq4)).mono ?_;rintro e w1 ⟨rfl,hb1⟩
 have s1:=hb1.size;try simp at s1
 try (have:w.heap.size<w1.heap.size:=oM)
 try (have:w.heap.size<w1.heap.size+1:=oM)
 try (have:w.heap.size<w1.heap.size+1+1:=oM)
 try (have e1_0_0_0:=hb1.cl w.heap.size 0;simp [go_sem, *] at e1_0_0_0)
 try (have f1_0_0_0:=hb1.fz w.heap.size 0;simp [go_sem, *] at f1_0_0_0)
 try (have e1_0_0_1:=hb1.cl w.heap.size 1;simp [go_sem, *] at e1_0_0_1)
 try (have f1_0_0_1:=hb1.fz w.heap.size 1;simp [go_sem, *] at f1_0_0_1)
 have HB1:=bel_step (w:=w) tq4 hb1
 clear hb1
 go_wp2_with fail
 refine (kind_r p n L T V hD _ (h.below tq4)).mono ?_;rintro e w2 ⟨rfl,hb2⟩
 have s2:=hb2.size;try simp at s2
 try (have:w.heap.size<w2.heap.size:=oM)
 try (have:w.heap.size<w2.heap.size+1:=oM)
 try (have:w.heap.size<w2.heap.size+1+1:=oM)
 try (have:w1.heap.size<w2.heap.size:=oM)
 try (have:w1.heap.size<w2.heap.size+1:=oM)
 try (have:w1.heap.size<w2.heap.size+1+1:=oM)
 try (have e2_0_0_0:=hb2.cl w.heap.size 0;simp [go_sem, *] at e2_0_0_0)
 try (have f2_0_0_0:=hb2.fz w.heap.size 0;simp [go_sem, *] at f2_0_0_0)
 try (have e2_0_0_1:=hb2.cl w.heap.size 1;simp [go_sem, *] at e2_0_0_1)
 try (have f2_0_0_1:=hb2.fz w.heap.size 1;simp [go_sem, *] at f2_0_0_1)
 try (have e2_1_0_0:=hb2.cl w1.heap.size 0;simp [go_sem, *] at e2_1_0_0)
 try (have f2_1_0_0:=hb2.fz w1.heap.size 0;simp [go_sem, *] at f2_1_0_0)
 try (have e2_1_0_1:=hb2.cl w1.heap.size 1;simp [go_sem, *] at e2_1_0_1)
 try (have f2_1_0_1:=hb2.fz w1.heap.size 1;simp [go_sem, *] at f2_1_0_1)
 have HB2:=bel_step (w:=w) tq4 hb2
 clear hb2
 go_wp2_with (first|(go_at_call 284;refine (listed_0 _ _).mono ?_;rintro e w9 ⟨rfl,rfl⟩))
 try simp only [Exit.inBlock,Exit.then]
 refine bodyPost_ret (v:=.func (.func 324) #[] #[.pointer (some ⟨w2.heap.size+1,0,none⟩)]) (by simp [results,results287,go_sem, *]) rfl ⟨w2,rfl,rfl,tq4⟩
theorem told_0(p n L:Nat)(T V:ByteArray)(hD:Doc T V n L)(a:Nat)(w:World)(h:Ix w p T n): Calls prog 225 #[.pointer (some ⟨a,0,none⟩),.agg #[.int .i64 2,.string ⟨#[]⟩,.int .i64 0,.int .i64 0,.int .i64 0,.bool false,.bool false,.int .i64 0],.agg #[.pointer (some ⟨p,0,none⟩),.int .i64 (-1)]] w fun e w'=>ToldP w p e w':=by
 go_enter func225,ntmps225
 go_wp2_with fail
 refine (index_0 p n L T V hD _ (h.below tq4)).mono ?_;rintro e w1 ⟨W,rfl,rfl,hb⟩
 have HB:=bel_step (w:=w) tq4 hb
 go_wp2_with fail
 exact bodyPost_ret (v:=.func (.func 324) #[] #[.pointer (some ⟨W.heap.size+1,0,none⟩)]) (by simp [results,results225,go_sem]) rfl ⟨W,rfl,rfl,HB.out⟩
structure RS (w0:World) (a m p gp cp gs cs gl cl g:Nat) (mo:Int) (st fd:Value) (sl:Int) (nx:Value) (k:Int) (W:World):Prop where
 hW:Wk m st fd mo a W
 hM:Mc gp cp gs cs gl cl p k m W
 hC:Cd gp gs gl W
 hF:Fr p sl nx g W
 hb:Below w0.heap.size w0 W
 Ba:w0.heap.size≤a
 Bm:w0.heap.size≤m
 Bg:w0.heap.size≤g
 am:a≠m
 ag:a≠g
 mg:m≠g
 agp:gp≠a
 mgp:gp≠m
 ggp:gp≠g
 ags:gs≠a
 mgs:gs≠m
 ggs:gs≠g
 agl:gl≠a
 mgl:gl≠m
 ggl:gl≠g
theorem RS.below{w0 W:World}{a m p gp cp gs cs gl cl g:Nat}{mo:Int}{st fd:Value}{sl:Int}{nx:Value}{k:Int}{W':World}(h:RS w0 a m p gp cp gs cs gl cl g mo st fd sl nx k W)(hb:Below W.heap.size W W'): RS w0 a m p gp cp gs cs gl cl g mo st fd sl nx k W':=⟨h.hW.below hb,h.hM.below hb,h.hC.below hb,h.hF.below hb,h.hb.trans (hb.mono h.hb.size),h.Ba,h.Bm,h.Bg,h.am,h.ag,h.mg,h.agp,h.mgp,h.ggp,h.ags,h.mgs,h.ggs,h.agl,h.mgl,h.ggl⟩
theorem RS.other{w0 W:World}{a m p gp cp gs cs gl cl g:Nat}{mo:Int}{st fd:Value}{sl:Int}{nx:Value}{k:Int}(h:RS w0 a m p gp cp gs cs gl cl g mo st fd sl nx k W){q:Addr}(hq:w0.heap.size≤q.block)(h1:q.block≠a)(h2:q.block≠m)(h3:q.block≠g)(h4:q.block≠gp)(h5:q.block≠gs)(h6:q.block≠gl)(v:Value): RS w0 a m p gp cp gs cs gl cl g mo st fd sl nx k (W.setCell q v):=⟨h.hW.set h1 v,h.hM.set h2 v,h.hC.set h4 h5 h6 v,h.hF.set h3 v,h.hb.setCell hq v,h.Ba,h.Bm,h.Bg,h.am,h.ag,h.mg,h.agp,h.mgp,h.ggp,h.ags,h.mgs,h.ggs,h.agl,h.mgl,h.ggl⟩
theorem RS.setS{w0 W:World}{a m p gp cp gs cs gl cl g:Nat}{mo:Int}{st fd:Value}{sl:Int}{nx:Value}{k:Int}(h:RS w0 a m p gp cp gs cs gl cl g mo st fd sl nx k W)(st':Value): RS w0 a m p gp cp gs cs gl cl g mo st' fd sl nx k (W.setCell ⟨a,4,none⟩ (st')):=⟨h.hW.setS st',h.hM.set (a:=⟨a,4,none⟩) h.am _,h.hC.set (a:=⟨a,4,none⟩) (Ne.symm h.agp) (Ne.symm h.ags) (Ne.symm h.agl) _,h.hF.set (a:=⟨a,4,none⟩) h.ag _,h.hb.setCell (p:=⟨a,4,none⟩) h.Ba _,h.Ba,h.Bm,h.Bg,h.am,h.ag,h.mg,h.agp,h.mgp,h.ggp,h.ags,h.mgs,h.ggs,h.agl,h.mgl,h.ggl⟩
theorem RS.setF{w0 W:World}{a m p gp cp gs cs gl cl g:Nat}{mo:Int}{st fd:Value}{sl:Int}{nx:Value}{k:Int}(h:RS w0 a m p gp cp gs cs gl cl g mo st fd sl nx k W)(fd':Value): RS w0 a m p gp cp gs cs gl cl g mo st fd' sl nx k (W.setCell ⟨a,5,none⟩ (fd')):=⟨h.hW.setF fd',h.hM.set (a:=⟨a,5,none⟩) h.am _,h.hC.set (a:=⟨a,5,none⟩) (Ne.symm h.agp) (Ne.symm h.ags) (Ne.symm h.agl) _,h.hF.set (a:=⟨a,5,none⟩) h.ag _,h.hb.setCell (p:=⟨a,5,none⟩) h.Ba _,h.Ba,h.Bm,h.Bg,h.am,h.ag,h.mg,h.agp,h.mgp,h.ggp,h.ags,h.mgs,h.ggs,h.agl,h.mgl,h.ggl⟩
theorem RS.setK{w0 W:World}{a m p gp cp gs cs gl cl g:Nat}{mo:Int}{st fd:Value}{sl:Int}{nx:Value}{k:Int}(h:RS w0 a m p gp cp gs cs gl cl g mo st fd sl nx k W)(k':Int): RS w0 a m p gp cp gs cs gl cl g mo st fd sl nx k' (W.setCell ⟨m,6,none⟩ (.int .i64 k')):=⟨h.hW.set (a:=⟨m,6,none⟩) (Ne.symm h.am) _,h.hM.setK k',h.hC.set (a:=⟨m,6,none⟩) (Ne.symm h.mgp) (Ne.symm h.mgs) (Ne.symm h.mgl) _,h.hF.set (a:=⟨m,6,none⟩) h.mg _,h.hb.setCell (p:=⟨m,6,none⟩) h.Bm _,h.Ba,h.Bm,h.Bg,h.am,h.ag,h.mg,h.agp,h.mgp,h.ggp,h.ags,h.mgs,h.ggs,h.agl,h.mgl,h.ggl⟩
theorem RS.setL{w0 W:World}{a m p gp cp gs cs gl cl g:Nat}{mo:Int}{st fd:Value}{sl:Int}{nx:Value}{k:Int}(h:RS w0 a m p gp cp gs cs gl cl g mo st fd sl nx k W)(sl':Int): RS w0 a m p gp cp gs cs gl cl g mo st fd sl' nx k (W.setCell ⟨g,1,none⟩ (.int .i64 sl')):=⟨h.hW.set (a:=⟨g,1,none⟩) (Ne.symm h.ag) _,h.hM.set (a:=⟨g,1,none⟩) (Ne.symm h.mg) _,h.hC.set (a:=⟨g,1,none⟩) (Ne.symm h.ggp) (Ne.symm h.ggs) (Ne.symm h.ggl) _,h.hF.setL sl',h.hb.setCell (p:=⟨g,1,none⟩) h.Bg _,h.Ba,h.Bm,h.Bg,h.am,h.ag,h.mg,h.agp,h.mgp,h.ggp,h.ags,h.mgs,h.ggs,h.agl,h.mgl,h.ggl⟩
theorem RS.setN{w0 W:World}{a m p gp cp gs cs gl cl g:Nat}{mo:Int}{st fd:Value}{sl:Int}{nx:Value}{k:Int}(h:RS w0 a m p gp cp gs cs gl cl g mo st fd sl nx k W)(nx':Value): RS w0 a m p gp cp gs cs gl cl g mo st fd sl nx' k (W.setCell ⟨g,6,none⟩ (nx')):=⟨h.hW.set (a:=⟨g,6,none⟩) (Ne.symm h.ag) _,h.hM.set (a:=⟨g,6,none⟩) (Ne.symm h.mg) _,h.hC.set (a:=⟨g,6,none⟩) (Ne.symm h.ggp) (Ne.symm h.ggs) (Ne.symm h.ggl) _,h.hF.setN nx',h.hb.setCell (p:=⟨g,6,none⟩) h.Bg _,h.Ba,h.Bm,h.Bg,h.am,h.ag,h.mg,h.agp,h.mgp,h.ggp,h.ags,h.mgs,h.ggs,h.agl,h.mgl,h.ggl⟩
end
section
open Go.RowKit
theorem eqIn_nil(w:World)(d:Nat): (Op.equalIn (d+1) 357 .nilFunc .nilFunc).run prog w=.ok true w:=by
 simp [Op.equalIn,run_underlying underlying357]
theorem eqIn_func(f:Fn)(b c:Array Value)(w:World)(d:Nat): (Op.equalIn (d+1) 357 (.func f b c) .nilFunc).run prog w=.ok false w:=by
 simp [Op.equalIn,run_underlying underlying357]
theorem eqn_nil(w:World): (binOp .eql 357 .nilFunc .nilFunc).run prog w=.ok (.bool true) w:=by
 simp only [binOp]
 simp [Op.equal,Op.maxDepth,eqIn_nil w 9999]
theorem eqn_func(f:Fn)(b c:Array Value)(w:World): (binOp .eql 357 (.func f b c) .nilFunc).run prog w=.ok (.bool false) w:=by
 simp only [binOp]
 simp [Op.equal,Op.maxDepth,eqIn_func f b c w 9999]
attribute [local go_sem] run_store_nilFunc run_store_func eqn_nil eqn_func
theorem RS.belowK{w0 W:World}{a m p gp cp gs cs gl cl g:Nat}{mo:Int}{st fd:Value}{sl:Int}{nx:Value}{k:Int}{Wc W1:World}{k':Int}(h:RS w0 a m p gp cp gs cs gl cl g mo st fd sl nx k W)(hb1:Below W.heap.size W Wc)(hb:Below Wc.heap.size (Wc.setCell ⟨m,6,none⟩ (.int .i64 k')) W1): RS w0 a m p gp cp gs cs gl cl g mo st fd sl nx k' W1:=((h.below hb1).setK k').below (by simpa [World.setCell] using hb)
theorem keep_bx{W Wc W1:World}{bx m a j:Nat}{v x y:Value}(h:W.cell? ⟨bx,j,none⟩=some v)(hlt:bx<W.heap.size)(hb1:Below W.heap.size W Wc)(hb:Below Wc.heap.size (Wc.setCell ⟨m,6,none⟩ x) W1)(hm:bx≠m)(ha:bx≠a): (W1.setCell ⟨a,5,none⟩ y).cell? ⟨bx,j,none⟩=some v∧bx<W1.heap.size:=by
 have l1:=hb1.size
 have l2:=hb.size
 simp [World.setCell] at l2
 refine ⟨?_,by omega⟩
 rw [qO (by intro e;injection e with e1;omega),hb.cell (p:=⟨bx,j,none⟩) (by show bx<Wc.heap.size;omega),qO (by intro e;injection e with e1;omega),hb1.cell (p:=⟨bx,j,none⟩) hlt]
 exact h
theorem setCell_size(w:World)(a:Addr)(v:Value): (w.setCell a v).heap.size=w.heap.size:=by simp [World.setCell]
theorem told_held{w0 W:World}{a m p gp cp gs cs gl cl g:Nat}{mo:Int}{st fd:Value}{sl k:Int}(h:Hid (∃nx,RS w0 a m p gp cp gs cs gl cl g mo st fd sl nx k W)): W.cell? ⟨a,0,none⟩=some (.pointer (some ⟨m,0,none⟩))∧W.cell? ⟨m,2,none⟩=some (.slice (some ⟨gl,0,none⟩) 1 cl)∧W.cell? ⟨g,0,none⟩=some (.int .i64 0)∧W.cell? ⟨g,1,none⟩=some (.int .i64 sl)∧W.cell? ⟨g,4,none⟩=some (.pointer (some ⟨p,0,none⟩))∧W.cell? ⟨g,5,none⟩=some (.int .i64 (-1))∧W.cell? ⟨gl,0,none⟩=some (.int .i64 2)∧W.cell? ⟨gl,1,none⟩=some (.string ⟨#[]⟩)∧W.cell? ⟨gl,2,none⟩=some (.int .i64 0)∧W.cell? ⟨gl,3,none⟩=some (.int .i64 0)∧W.cell? ⟨gl,4,none⟩=some (.int .i64 0)∧W.cell? ⟨gl,5,none⟩=some (.bool false)∧W.cell? ⟨gl,6,none⟩=some (.bool false)∧W.cell? ⟨gl,7,none⟩=some (.int .i64 0)∧Hid (∃nx,RS w0 a m p gp cp gs cs gl cl g mo st fd sl nx k (W)):=by
 obtain ⟨nx,H⟩ :=h.out
 exact ⟨H.hW.c0,H.hM.c2,H.hF.c0,H.hF.c1,H.hF.c4,H.hF.c5,H.hC.l.c0,H.hC.l.c1,H.hC.l.c2,H.hC.l.c3,H.hC.l.c4,H.hC.l.c5,H.hC.l.c6,H.hC.l.c7,h⟩
theorem rx_below{w0 W:World}{a m p gp cp gs cs gl cl g:Nat}{mo:Int}{st fd:Value}{sl k:Int}{W':World}(h:Hid (∃nx,RS w0 a m p gp cp gs cs gl cl g mo st fd sl nx k W))(hb:Below W.heap.size W W'): Hid (∃nx,RS w0 a m p gp cp gs cs gl cl g mo st fd sl nx k (W')):=hid (h.out.elim fun nx H=>⟨nx,H.below hb⟩)
theorem rx_drew{w0 W:World}{a m p gp cp gs cs gl cl g:Nat}{mo:Int}{st fd:Value}{sl k:Int}(h:Hid (∃nx,RS w0 a m p gp cp gs cs gl cl g mo st fd sl nx k W)): Hid (∃nx,RS w0 a m p gp cp gs cs gl cl g mo st fd sl nx k (W.drew)):=rx_below h qR.drew
theorem rx_alloc{w0 W:World}{a m p gp cp gs cs gl cl g:Nat}{mo:Int}{st fd:Value}{sl k:Int}(h:Hid (∃nx,RS w0 a m p gp cp gs cs gl cl g mo st fd sl nx k W))(o:Obj): Hid (∃nx,RS w0 a m p gp cp gs cs gl cl g mo st fd sl nx k (W.alloc o)):=rx_below h (qR.alloc qL o)
theorem rx_setN{w0 W:World}{a m p gp cp gs cs gl cl g:Nat}{mo:Int}{st fd:Value}{sl k:Int}(h:Hid (∃nx,RS w0 a m p gp cp gs cs gl cl g mo st fd sl nx k W))(v:Value): Hid (∃nx,RS w0 a m p gp cp gs cs gl cl g mo st fd sl nx k (W.setCell ⟨g,6,none⟩ v)):=hid (h.out.elim fun nx H=>⟨v,H.setN v⟩)
theorem child_held{w0 W:World}{a m p gp cp gs cs gl cl g:Nat}{mo:Int}{st:Value}{sl:Int}{D:Nat}(h:Hid (∃fd nx k,RS w0 a m p gp cp gs cs gl cl g mo st fd sl nx k (W)∧D<(W).heap.size∧(W).cell? ⟨D,0,none⟩=some (.pointer (some ⟨p,0,none⟩))∧(W).cell? ⟨D,1,none⟩=some (.int .i64 1))): W.cell? ⟨g,0,none⟩=some (.int .i64 0)∧W.cell? ⟨g,1,none⟩=some (.int .i64 sl)∧W.cell? ⟨D,0,none⟩=some (.pointer (some ⟨p,0,none⟩))∧W.cell? ⟨D,1,none⟩=some (.int .i64 1)∧Hid (∃fd nx k,RS w0 a m p gp cp gs cs gl cl g mo st fd sl nx k (W)∧D<(W).heap.size∧(W).cell? ⟨D,0,none⟩=some (.pointer (some ⟨p,0,none⟩))∧(W).cell? ⟨D,1,none⟩=some (.int .i64 1)):=by
 obtain ⟨fd,nx,k,H,d0,d1,d2⟩ :=h.out
 exact ⟨H.hF.c0,H.hF.c1,d1,d2,h⟩
theorem ry_below{w0 W:World}{a m p gp cp gs cs gl cl g:Nat}{mo:Int}{st:Value}{sl:Int}{D:Nat}{W':World}(h:Hid (∃fd nx k,RS w0 a m p gp cp gs cs gl cl g mo st fd sl nx k (W)∧D<(W).heap.size∧(W).cell? ⟨D,0,none⟩=some (.pointer (some ⟨p,0,none⟩))∧(W).cell? ⟨D,1,none⟩=some (.int .i64 1)))(hb:Below W.heap.size W W'): Hid (∃fd nx k,RS w0 a m p gp cp gs cs gl cl g mo st fd sl nx k (W')∧D<(W').heap.size∧(W').cell? ⟨D,0,none⟩=some (.pointer (some ⟨p,0,none⟩))∧(W').cell? ⟨D,1,none⟩=some (.int .i64 1)):=by
 obtain ⟨fd,nx,k,H,d0,d1,d2⟩ :=h.out
 exact hid ⟨fd,nx,k,H.below hb,Nat.lt_of_lt_of_le d0 hb.size,(hb.cell (p:=⟨D,0,none⟩) d0).trans d1,(hb.cell (p:=⟨D,1,none⟩) d0).trans d2⟩
theorem ry_drew{w0 W:World}{a m p gp cp gs cs gl cl g:Nat}{mo:Int}{st:Value}{sl:Int}{D:Nat}(h:Hid (∃fd nx k,RS w0 a m p gp cp gs cs gl cl g mo st fd sl nx k (W)∧D<(W).heap.size∧(W).cell? ⟨D,0,none⟩=some (.pointer (some ⟨p,0,none⟩))∧(W).cell? ⟨D,1,none⟩=some (.int .i64 1))): Hid (∃fd nx k,RS w0 a m p gp cp gs cs gl cl g mo st fd sl nx k (W.drew)∧D<(W.drew).heap.size∧(W.drew).cell? ⟨D,0,none⟩=some (.pointer (some ⟨p,0,none⟩))∧(W.drew).cell? ⟨D,1,none⟩=some (.int .i64 1)):=ry_below h qR.drew
theorem ry_alloc{w0 W:World}{a m p gp cp gs cs gl cl g:Nat}{mo:Int}{st:Value}{sl:Int}{D:Nat}(h:Hid (∃fd nx k,RS w0 a m p gp cp gs cs gl cl g mo st fd sl nx k (W)∧D<(W).heap.size∧(W).cell? ⟨D,0,none⟩=some (.pointer (some ⟨p,0,none⟩))∧(W).cell? ⟨D,1,none⟩=some (.int .i64 1)))(o:Obj): Hid (∃fd nx k,RS w0 a m p gp cp gs cs gl cl g mo st fd sl nx k (W.alloc o)∧D<(W.alloc o).heap.size∧(W.alloc o).cell? ⟨D,0,none⟩=some (.pointer (some ⟨p,0,none⟩))∧(W.alloc o).cell? ⟨D,1,none⟩=some (.int .i64 1)):=ry_below h (qR.alloc qL o)
def RunP (w0:World) (m a p:Nat) (mo:Int) (e:Ending) (w':World):Prop:=e=.returned (.tuple #[])∧Below w0.heap.size w0 w'∧∃st g c,Wk m st (.slice (some ⟨g,0,none⟩) 1 c) mo a w'∧Cw p g w'∧w0.heap.size≤g
structure Bxx (bx gc:Nat) (W:World):Prop where
 lt:bx<W.heap.size
 c:W.cell? ⟨bx,0,none⟩=some (.slice (some ⟨gc,0,none⟩) 0 0)
theorem Bxx.below{bx gc:Nat}{W W':World}(h:Bxx bx gc W)(hb:Below W.heap.size W W'): Bxx bx gc W':=⟨Nat.lt_of_lt_of_le h.lt hb.size,(hb.cell (p:=⟨bx,0,none⟩) h.lt).trans h.c⟩
def scopeBody (f:Func):Code:=match f.body with|some (.scope c)=>c|some (.seq _ (.scope c))=>c|_=>.skip
structure Ac (a:Nat) (x:Act):Prop where
 d:x.defers=[]
 s:x.tmps.size=177
 z:x.tmps[0]?=some (.pointer (some ⟨a,0,none⟩))
theorem row_lit(ts:Array Value)(n:Nat)(h:ts.size=n): ts=((List.range n).map fun i=>ts.getD i undef).toArray:=by
 subst h
 apply Array.ext
 ·simp
 ·intro i h1 h2
  simp [Array.getD,h1]
theorem Ac.lit{a:Nat}{x:Act}(h:Ac a x): ∃u:Nat→Value,x={ tmps:=#[.pointer (some ⟨a,0,none⟩),u 1,u 2,u 3,u 4,u 5,u 6,u 7,u 8,u 9,u 10,u 11,u 12,u 13,u 14,u 15,u 16,u 17,u 18,u 19,u 20,u 21,u 22,u 23,u 24,u 25,u 26,u 27,u 28,u 29,u 30,u 31,u 32,u 33,u 34,u 35,u 36,u 37,u 38,u 39,u 40,u 41,u 42,u 43,u 44,u 45,u 46,u 47,u 48,u 49,u 50,u 51,u 52,u 53,u 54,u 55,u 56,u 57,u 58,u 59,u 60,u 61,u 62,u 63,u 64,u 65,u 66,u 67,u 68,u 69,u 70,u 71,u 72,u 73,u 74,u 75,u 76,u 77,u 78,u 79,u 80,u 81,u 82,u 83,u 84,u 85,u 86,u 87,u 88,u 89,u 90,u 91,u 92,u 93,u 94,u 95,u 96,u 97,u 98,u 99,u 100,u 101,u 102,u 103,u 104,u 105,u 106,u 107,u 108,u 109,u 110,u 111,u 112,u 113,u 114,u 115,u 116,u 117,u 118,u 119,u 120,u 121,u 122,u 123,u 124,u 125,u 126,u 127,u 128,u 129,u 130,u 131,u 132,u 133,u 134,u 135,u 136,u 137,u 138,u 139,u 140,u 141,u 142,u 143,u 144,u 145,u 146,u 147,u 148,u 149,u 150,u 151,u 152,u 153,u 154,u 155,u 156,u 157,u 158,u 159,u 160,u 161,u 162,u 163,u 164,u 165,u 166,u 167,u 168,u 169,u 170,u 171,u 172,u 173,u 174,u 175,u 176],defers:=[] }:=by
 refine ⟨fun i=>x.tmps.getD i undef,?_⟩
 have h1:=row_lit x.tmps 177 h.s
 have h2:x.tmps.getD 0 undef=.pointer (some ⟨a,0,none⟩):=by
  rw [Array.getD_eq_getD_getElem?,h.z];rfl
 have h3:x.tmps=#[.pointer (some ⟨a,0,none⟩),x.tmps.getD 1 undef,x.tmps.getD 2 undef,x.tmps.getD 3 undef,x.tmps.getD 4 undef,x.tmps.getD 5 undef,x.tmps.getD 6 undef,x.tmps.getD 7 undef,x.tmps.getD 8 undef,x.tmps.getD 9 undef,x.tmps.getD 10 undef,x.tmps.getD 11 undef,x.tmps.getD 12 undef,x.tmps.getD 13 undef,x.tmps.getD 14 undef,x.tmps.getD 15 undef,x.tmps.getD 16 undef,x.tmps.getD 17 undef,x.tmps.getD 18 undef,x.tmps.getD 19 undef,x.tmps.getD 20 undef,x.tmps.getD 21 undef,x.tmps.getD 22 undef,x.tmps.getD 23 undef,x.tmps.getD 24 undef,x.tmps.getD 25 undef,x.tmps.getD 26 undef,x.tmps.getD 27 undef,x.tmps.getD 28 undef,x.tmps.getD 29 undef,x.tmps.getD 30 undef,x.tmps.getD 31 undef,x.tmps.getD 32 undef,x.tmps.getD 33 undef,x.tmps.getD 34 undef,x.tmps.getD 35 undef,x.tmps.getD 36 undef,x.tmps.getD 37 undef,x.tmps.getD 38 undef,x.tmps.getD 39 undef,x.tmps.getD 40 undef,x.tmps.getD 41 undef,x.tmps.getD 42 undef,x.tmps.getD 43 undef,x.tmps.getD 44 undef,x.tmps.getD 45 undef,x.tmps.getD 46 undef,x.tmps.getD 47 undef,x.tmps.getD 48 undef,x.tmps.getD 49 undef,x.tmps.getD 50 undef,x.tmps.getD 51 undef,x.tmps.getD 52 undef,x.tmps.getD 53 undef,x.tmps.getD 54 undef,x.tmps.getD 55 undef,x.tmps.getD 56 undef,x.tmps.getD 57 undef,x.tmps.getD 58 undef,x.tmps.getD 59 undef,x.tmps.getD 60 undef,x.tmps.getD 61 undef,x.tmps.getD 62 undef,x.tmps.getD 63 undef,x.tmps.getD 64 undef,x.tmps.getD 65 undef,x.tmps.getD 66 undef,x.tmps.getD 67 undef,x.tmps.getD 68 undef,x.tmps.getD 69 undef,x.tmps.getD 70 undef,x.tmps.getD 71 undef,x.tmps.getD 72 undef,x.tmps.getD 73 undef,x.tmps.getD 74 undef,x.tmps.getD 75 undef,x.tmps.getD 76 undef,x.tmps.getD 77 undef,x.tmps.getD 78 undef,x.tmps.getD 79 undef,x.tmps.getD 80 undef,x.tmps.getD 81 undef,x.tmps.getD 82 undef,x.tmps.getD 83 undef,x.tmps.getD 84 undef,x.tmps.getD 85 undef,x.tmps.getD 86 undef,x.tmps.getD 87 undef,x.tmps.getD 88 undef,x.tmps.getD 89 undef,x.tmps.getD 90 undef,x.tmps.getD 91 undef,x.tmps.getD 92 undef,x.tmps.getD 93 undef,x.tmps.getD 94 undef,x.tmps.getD 95 undef,x.tmps.getD 96 undef,x.tmps.getD 97 undef,x.tmps.getD 98 undef,x.tmps.getD 99 undef,x.tmps.getD 100 undef,x.tmps.getD 101 undef,x.tmps.getD 102 undef,x.tmps.getD 103 undef,x.tmps.getD 104 undef,x.tmps.getD 105 undef,x.tmps.getD 106 undef,x.tmps.getD 107 undef,x.tmps.getD 108 undef,x.tmps.getD 109 undef,x.tmps.getD 110 undef,x.tmps.getD 111 undef,x.tmps.getD 112 undef,x.tmps.getD 113 undef,x.tmps.getD 114 undef,x.tmps.getD 115 undef,x.tmps.getD 116 undef,x.tmps.getD 117 undef,x.tmps.getD 118 undef,x.tmps.getD 119 undef,x.tmps.getD 120 undef,x.tmps.getD 121 undef,x.tmps.getD 122 undef,x.tmps.getD 123 undef,x.tmps.getD 124 undef,x.tmps.getD 125 undef,x.tmps.getD 126 undef,x.tmps.getD 127 undef,x.tmps.getD 128 undef,x.tmps.getD 129 undef,x.tmps.getD 130 undef,x.tmps.getD 131 undef,x.tmps.getD 132 undef,x.tmps.getD 133 undef,x.tmps.getD 134 undef,x.tmps.getD 135 undef,x.tmps.getD 136 undef,x.tmps.getD 137 undef,x.tmps.getD 138 undef,x.tmps.getD 139 undef,x.tmps.getD 140 undef,x.tmps.getD 141 undef,x.tmps.getD 142 undef,x.tmps.getD 143 undef,x.tmps.getD 144 undef,x.tmps.getD 145 undef,x.tmps.getD 146 undef,x.tmps.getD 147 undef,x.tmps.getD 148 undef,x.tmps.getD 149 undef,x.tmps.getD 150 undef,x.tmps.getD 151 undef,x.tmps.getD 152 undef,x.tmps.getD 153 undef,x.tmps.getD 154 undef,x.tmps.getD 155 undef,x.tmps.getD 156 undef,x.tmps.getD 157 undef,x.tmps.getD 158 undef,x.tmps.getD 159 undef,x.tmps.getD 160 undef,x.tmps.getD 161 undef,x.tmps.getD 162 undef,x.tmps.getD 163 undef,x.tmps.getD 164 undef,x.tmps.getD 165 undef,x.tmps.getD 166 undef,x.tmps.getD 167 undef,x.tmps.getD 168 undef,x.tmps.getD 169 undef,x.tmps.getD 170 undef,x.tmps.getD 171 undef,x.tmps.getD 172 undef,x.tmps.getD 173 undef,x.tmps.getD 174 undef,x.tmps.getD 175 undef,x.tmps.getD 176 undef]:=h1.trans (by rw [←h2];rfl)
 cases x with
 | mk t d=>have hd:d=[]:=h.d;subst hd;exact congrArg (fun t=>(⟨t,[]⟩:Act)) h3
def StA (w0:World) (a m p gp cp gs cs gl cl:Nat) (mo:Int) (W:World):Prop:=∃g c,RS w0 a m p gp cp gs cs gl cl g mo (.slice (some ⟨g,0,none⟩) 1 c) (.slice none 0 0) 0 .nilFunc 0 W
def StB (w0:World) (a m p gp cp gs cs gl cl:Nat) (mo:Int) (W:World):Prop:=∃g c gf cf bx gc,RS w0 a m p gp cp gs cs gl cl g mo (.slice (some ⟨g,0,none⟩) 1 c) (.slice (some ⟨gf,0,none⟩) 1 cf) 0 (.func (.func 324) #[] #[.pointer (some ⟨bx,0,none⟩)]) 1 W∧(bx<W.heap.size∧W.cell? ⟨bx,0,none⟩=some (.slice (some ⟨gc,0,none⟩) 0 0))∧Cw p gf W∧w0.heap.size≤gf∧gf≠a∧gf≠m∧gf≠g
def StC (w0:World) (a m p gp cp gs cs gl cl:Nat) (mo:Int) (W:World):Prop:=∃g c gf cf,RS w0 a m p gp cp gs cs gl cl g mo (.slice (some ⟨g,0,none⟩) 1 c) (.slice (some ⟨gf,0,none⟩) 1 cf) 1 .nilFunc 1 W∧Cw p gf W∧w0.heap.size≤gf∧gf≠a
def StD (w0:World) (a m p:Nat) (mo:Int) (W:World):Prop:=∃g c gf cf,Wk m (.slice (some ⟨g,0,none⟩) 0 c) (.slice (some ⟨gf,0,none⟩) 1 cf) mo a W∧Below w0.heap.size w0 W∧Cw p gf W∧w0.heap.size≤gf
end
section
open Go.RowKit
attribute [local go_sem] run_store_nilFunc run_store_func eqn_nil eqn_func
set_option maxHeartbeats 4000000 in
theorem stD(w0:World)(a m gp cp gs cs gl cl:Nat)(mo:Int)(hmo:1≤mo)(p n L:Nat)(T V:ByteArray)(hD:Doc T V n L)(hX:Ix w0 p T n)(J:Nat→Act→World→Prop)(Q:Exit→Act→World→Prop)(x:Act)(W:World)(hx:Ac a x)(hS:StD w0 a m p mo W)(hJ:∀ts W',RunP w0 m a p mo (.returned (.tuple #[])) W'→Q .ret { tmps:=ts,defers:=[] } W'): ∃rest,findLabel (scopeBody f163) 0=some (Code.skip.seq rest)∧rest.wp prog (jumps J Q) x W:=by
 obtain ⟨u,rfl⟩ :=hx.lit
 clear hx
 refine ⟨_,rfl,?_⟩
 have HJ:=hid hJ
 clear hJ
 obtain ⟨g,c,gf,cf,hW,hB,hC,hgf⟩ :=hS
 have hR:Hid (RunP w0 m a p mo (.returned (.tuple #[])) W):=hid ⟨rfl,hB,_,gf,cf,hW,hC,hgf⟩
 have aw0:=hW.c0
 have aw1:=hW.c1
 have aw2:=hW.c2
 have aw3:=hW.c3
 have aw4:=hW.c4
 have aw5:=hW.c5
 have aw6:=hW.c6
 have aw7:=hW.c7
 have alt:=hW.lt
 clear hB hC hgf hW
 go_wp2_with fail
 rw [jumps_ret]
 exact HJ.out _ _ hR.out
end
namespace Nn
open Go.RowKit
open Np
def Ex (l:List UInt8) (em:Bool) (ds:List UInt8):Prop:=(l=[]∧ds=[]∧em=false)∨(ds≠[]∧((l=ds∧em=false)∨(l=43::ds∧em=false)∨(l=45::ds∧em=true)))
def SplitP (w:World) (mi:Bool) (wh fr:List UInt8) (em:Bool) (ds:List UInt8) (e:Ending) (w':World):Prop:=∃W F E:ByteArray,e=.returned (.tuple #[.agg #[.bool mi,.string W,.string F,.string E],.bool true])∧W.data.toList=wh∧F.data.toList=fr∧Ex E.data.toList em ds∧Below w.heap.size w w'
theorem head_l(s:ByteArray)(b:UInt8)(l:List UInt8)(h:s.data.toList=b::l)(w:World): (Instr.index 9 (.string s) (.int .i64 0)).run prog w=.ok (.int .u8 (b.toNat:Nat)) w:=by
 obtain ⟨h0,hb⟩ :=at_l s 0 b (by rw [h];rfl)
 have:=idx_run s 0 h0 0 rfl w
 rw [hb] at this
 exact this
structure Pw (w:World) (C:Nat) (mi:Bool) (W F v:ByteArray) (x:Act) (V:World):Prop where
 fz:Fz 97 [(0,.string v),(2,.pointer (some ⟨C,0,none⟩)),(4,.pointer (some ⟨C+1,0,none⟩))] x
 sz:v.size≤100
 p:Bk (C+1) [.bool mi,.string W,.string F,.string ⟨#[]⟩] V
 r:Bk C [.bool false,.string ⟨#[]⟩,.string ⟨#[]⟩,.string ⟨#[]⟩] V
 bel:Below C w V
theorem pw_e(w:World)(C:Nat)(mi:Bool)(W F v:ByteArray)(ds:List UInt8)(em:Bool)(hv:v.data.toList=[])(hd:ds=[])(hm:em=false)(J:Nat→Act→World→Prop)(Q:Exit→Act→World→Prop)(x:Act)(V:World)(hP:Pw w C mi W F v x V)(hJ:∀(ts:Array Value) (W':World) (E:ByteArray),ts[2]?=some (.pointer (some ⟨C,0,none⟩))→ts[3]?=some (.bool true)→Ex E.data.toList em ds→Bk C [.bool mi,.string W,.string F,.string E] W'→Below C w W'→Q .ret { tmps:=ts,defers:=[] } W'): ∃rest,findLabel (scopeBody f396) 1=some (Code.skip.seq rest)∧rest.wp prog (jumps J Q) x V:=by
 have HJ:=hid hJ
 clear hJ
 have kv0:=hP.fz.at 0 (.string v) sM
 have kv2:=hP.fz.at 2 (.pointer (some ⟨C,0,none⟩)) sM
 have kv4:=hP.fz.at 4 (.pointer (some ⟨C+1,0,none⟩)) sM
 have e:=hP.fz.lit97
 have B:=hid (And.intro hP.p (And.intro hP.r hP.bel))
 have hsz:=hP.sz
 rw [e];simp only [kv0,kv2,kv4]
 clear e kv0 kv2 kv4 hP
 refine ⟨_,rfl,?_⟩
 have gen:=qG x
 obtain ⟨u,hu⟩ :=gen
 simp only [hu]
 clear hu x
 have p0:=B.out.1.c 0 _ rfl;have p1:=B.out.1.c 1 _ rfl;have p2:=B.out.1.c 2 _ rfl;have p3:=B.out.1.c 3 _ rfl
 have q0:=B.out.1.z 0 sM;have q1:=B.out.1.z 1 sM;have q2:=B.out.1.z 2 sM;have q3:=B.out.1.z 3 sM
 have r0:=B.out.2.1.c 0 _ rfl;have r1:=B.out.2.1.c 1 _ rfl;have r2:=B.out.2.1.c 2 _ rfl;have r3:=B.out.2.1.c 3 _ rfl
 have s0:=B.out.2.1.z 0 sM;have s1:=B.out.2.1.z 1 sM;have s2:=B.out.2.1.z 2 sM;have s3:=B.out.2.1.z 3 sM
 have pl:=B.out.1.lt;have rl:=B.out.2.1.lt
 have:¬C+1=C:=oM
 have:¬C=C+1:=oM
 have e0:=str_e v true (by rw [hv];rfl)
 go_wp2_with fail
 rw [jumps_ret]
 refine HJ.out _ _ ⟨#[]⟩ rfl rfl (.inl ⟨rfl,hd,hm⟩) ?_ ?_
 ·refine ⟨by simp [World.setCell];omega,fun j y hj=>by rcases j with _|_|_|_|j <;> first|(simp at hj;done)|(simp at hj;subst hj;simp [go_sem, *]),fun j hj=>by rcases j with _|_|_|_|j <;> first|(simp [go_sem, *];done)|(simp at hj;omega)⟩
 ·repeat' (first|refine Below.setCell ?_ (by first|exact qL|omega|(show C≤C+1;omega)) _|refine below_drewN' ?_ _|refine Below.drew ?_|exact B.out.2.2)
theorem pw_x(w:World)(C:Nat)(mi:Bool)(W F v:ByteArray)(e:UInt8)(c ds:List UInt8)(em:Bool)(he:e=101∨e=69)(hc:(em=false∧c=[])∨(em=false∧c=[43])∨(em=true∧c=[45]))(hv:v.data.toList=e::(c++ds))(hd0:ds≠[])(hdd:∀b∈ds,Dg b)(J:Nat→Act→World→Prop)(Q:Exit→Act→World→Prop)(x:Act)(V:World)(hP:Pw w C mi W F v x V)(hJ:∀(ts:Array Value) (W':World) (E:ByteArray),ts[2]?=some (.pointer (some ⟨C,0,none⟩))→ts[3]?=some (.bool true)→Ex E.data.toList em ds→Bk C [.bool mi,.string W,.string F,.string E] W'→Below C w W'→Q .ret { tmps:=ts,defers:=[] } W'): ∃rest,findLabel (scopeBody f396) 1=some (Code.skip.seq rest)∧rest.wp prog (jumps J Q) x V:=by
 have HJ:=hid hJ
 clear hJ
 have kv0:=hP.fz.at 0 (.string v) sM
 have kv2:=hP.fz.at 2 (.pointer (some ⟨C,0,none⟩)) sM
 have kv4:=hP.fz.at 4 (.pointer (some ⟨C+1,0,none⟩)) sM
 have e:=hP.fz.lit97
 have B:=hid (And.intro hP.p (And.intro hP.r hP.bel))
 have hsz:=hP.sz
 rw [e];simp only [kv0,kv2,kv4]
 clear e kv0 kv2 kv4 hP
 refine ⟨_,rfl,?_⟩
 have gen:=qG x
 obtain ⟨u,hu⟩ :=gen
 simp only [hu]
 clear hu x
 have p0:=B.out.1.c 0 _ rfl;have p1:=B.out.1.c 1 _ rfl;have p2:=B.out.1.c 2 _ rfl;have p3:=B.out.1.c 3 _ rfl
 have q0:=B.out.1.z 0 sM;have q1:=B.out.1.z 1 sM;have q2:=B.out.1.z 2 sM;have q3:=B.out.1.z 3 sM
 have r0:=B.out.2.1.c 0 _ rfl;have r1:=B.out.2.1.c 1 _ rfl;have r2:=B.out.2.1.c 2 _ rfl;have r3:=B.out.2.1.c 3 _ rfl
 have s0:=B.out.2.1.z 0 sM;have s1:=B.out.2.1.z 1 sM;have s2:=B.out.2.1.z 2 sM;have s3:=B.out.2.1.z 3 sM
 have pl:=B.out.1.lt;have rl:=B.out.2.1.lt
 have nb:¬C+1=C:=oM
 have nb':¬C=C+1:=oM
 have e0:=str_e v false (by rw [hv];rfl)
 have hX:=head_l v e _ hv
 have hz1:1≤v.size:=by rw [Lib.size_eq,hv];simp
 have hz1':¬((v.size:Int)<1):=oM
 obtain ⟨v1,hv1,hl1⟩ :=ext_e v 1
 rw [hv] at hl1
 simp only [List.drop_succ_cons,List.drop_zero] at hl1
 have hs1:v1.size≤100:=by rw [Lib.size_eq,hl1];rw [Lib.size_eq,hv] at hsz;simp at hsz ⊢;omega
 obtain ⟨b0,l0,hb0⟩:∃b l,ds=b::l:=by cases ds with|nil=>exact absurd rfl hd0|cons a l=>exact ⟨a,l,rfl⟩
 have hb48:48≤b0.toNat:=(hdd b0 (by rw [hb0];simp)).1
 have hE:Hid (Ex v1.data.toList em ds):=hid (.inr ⟨hd0,by rcases hc with ⟨hm,rfl⟩|⟨hm,rfl⟩|⟨hm,rfl⟩;exact .inl ⟨hl1,hm⟩;exact .inr (.inl ⟨hl1,hm⟩);exact .inr (.inr ⟨hl1,hm⟩)⟩)
 have hS:∃y:ByteArray,((v1=y∧(∀w,(Instr.index 9 (.string v1) (.int .i64 0)).run prog w=.ok (.int .u8 (b0.toNat:Nat)) w)∧((b0.toNat:Int)==43)=false∧((b0.toNat:Int)==45)=false)∨(∃p:UInt8,(p=43∨p=45)∧(∀w,(Instr.index 9 (.string v1) (.int .i64 0)).run prog w=.ok (.int .u8 (p.toNat:Nat)) w)∧v1.extract 1 v1.size=y))∧y.data.toList=ds:=by
  have sg:∀p:UInt8,c=[p]→p=43∨p=45→∃y:ByteArray,((v1=y∧(∀w,(Instr.index 9 (.string v1) (.int .i64 0)).run prog w=.ok (.int .u8 (b0.toNat:Nat)) w)∧((b0.toNat:Int)==43)=false∧((b0.toNat:Int)==45)=false)∨(∃p:UInt8,(p=43∨p=45)∧(∀w,(Instr.index 9 (.string v1) (.int .i64 0)).run prog w=.ok (.int .u8 (p.toNat:Nat)) w)∧v1.extract 1 v1.size=y))∧y.data.toList=ds:=by
   rintro p rfl hp
   exact ⟨_,.inr ⟨p,hp,head_l v1 p _ hl1,rfl⟩,by rw [ext_l,hl1];rfl⟩
  rcases hc with ⟨_,hc⟩|⟨_,hc⟩|⟨_,hc⟩
  ·subst hc
   exact ⟨v1,.inl ⟨rfl,head_l v1 b0 l0 (by rw [hl1,hb0];rfl),by rw [beq_eq_false_iff_ne];omega,by rw [beq_eq_false_iff_ne];omega⟩,hl1⟩
  ·exact sg 43 hc (.inl rfl)
  ·exact sg 45 hc (.inr rfl)
 obtain ⟨y,hy,hyl⟩ :=hS
 have e1:v1.toList.isEmpty=false:=str_e v1 false (by rw [hl1];cases c with|nil=>rw [hb0];rfl|cons a l=>rfl)
 have hz2:1≤v1.size:=by rw [Lib.size_eq,hl1,hb0];simp;omega
 have hz2':¬((v1.size:Int)<1):=oM
 have e2:=str_e y false (by rw [hyl,hb0];rfl)
 have hys:y.size≤1000:=by rw [Lib.size_eq,hyl];rw [Lib.size_eq,hl1] at hs1;simp at hs1;omega
 have hD:=fun W=>ndigits_any y y.size hys (hid (by rw [hyl,Lib.size_eq,hyl];have:=dlen_all ds [] hdd sM;simpa using this)) W
 clear hv hl1 hyl hc hd0 hdd hb0 hb48
 rcases he with rfl|rfl <;> rcases hy with ⟨rfl,hX1,g1,g2⟩|⟨p,rfl|rfl,hX1,hy⟩
 all_goals go_wp2_with (first|(go_at_call 407;refine (hD _).mono ?_;rintro e w1 ⟨rfl,rfl⟩))
 all_goals rw [jumps_ret]
 all_goals
  refine HJ.out _ _ v1 rfl rfl hE.out ?_ ?_
  ·refine ⟨by simp [World.setCell];omega,fun j y hj=>by rcases j with _|_|_|_|j <;> first|(simp at hj;done)|(simp at hj;subst hj;simp [go_sem, *]),fun j hj=>by rcases j with _|_|_|_|j <;> first|(simp [go_sem, *];done)|(simp at hj;omega)⟩
  ·repeat' (first|refine Below.setCell ?_ (by first|exact qL|omega|(show C≤C+1;omega)) _|refine below_drewN' ?_ _|refine Below.drew ?_|exact B.out.2.2)
end Nn
namespace Nn
open Go.RowKit
theorem and_x{r g:Nat}{en dp:Int}{u:Tok}{t0 ts:List Tok}(i:Int)(la:Bool)(lk ln:Int)(ra:Bool)(rk rn:Int)(hu:Is u ⟨#[38,38]⟩ false)(hc:XQ 374 r g t0 (u::ts) en dp i la lk ln ra rk rn): XQ 354 r g t0 (u::ts) en dp i la lk ln ra rk rn:=fun w h=>by
 have lt:=h.lt
 have glt:=h.glt
 have hL:=fun W h=>list_l (r:=r) (g:=g) (en:=en) (dp:=dp) (u:=u) (t0:=t0) (ts:=ts) i la lk ln ra rk rn hu hc W h
 have C0:=hid ((CX.start h).add #[.int .i64 0,.slice none 0 0,.bool false,.slice none 0 0,.int .i64 0,.bool false,.int .i64 0,.int .i64 0,.string ⟨#[]⟩,.bool false,.slice none 0 0,.bool false,.int .i64 0,.int .i64 0,.string ⟨#[]⟩,.bool false,.slice none 0 0] 287)
 have OB0:=hid (heap_alloc_new w (.cells #[.int .i64 0,.slice none 0 0,.bool false,.slice none 0 0,.int .i64 0,.bool false,.int .i64 0,.int .i64 0,.string ⟨#[]⟩,.bool false,.slice none 0 0,.bool false,.int .i64 0,.int .i64 0,.string ⟨#[]⟩,.bool false,.slice none 0 0] 287))
 clear h hc
 go_enter func354,ntmps354
 go_wp2_with fail
 generalize (w.alloc _)=W0 at C0 OB0 ⊢
 refine (hL _ C0.out.rt).mono ?_;rintro e w1 ⟨rfl,hf,hn1⟩
 have C5:=hid (C0.out.step hf hn1)
 have OB5:=hid (hf.blk (C0.out.bs _ (.head _)).lt (by simp;omega) OB0.out)
 clear C0 hf hn1 hL OB0
 go_wp2_with (first|((with_reducible show wpList _ _ _ (⟨_,Op.store _ _ _,_,_,_,_⟩ ::_) _ _);refine wpList_store_row rfl 287 _ _ rfl w.heap.size #[.int .i64 4,.slice none 0 0,.bool false,.slice none 0 0,.int .i64 i,.bool la,.int .i64 lk,.int .i64 ln,.string ⟨#[]⟩,.bool false,.slice none 0 0,.bool ra,.int .i64 rk,.int .i64 rn,.string ⟨#[]⟩,.bool false,.slice none 0 0] rfl rfl 287 #[.int .i64 0,.slice none 0 0,.bool false,.slice none 0 0,.int .i64 0,.bool false,.int .i64 0,.int .i64 0,.string ⟨#[]⟩,.bool false,.slice none 0 0,.bool false,.int .i64 0,.int .i64 0,.string ⟨#[]⟩,.bool false,.slice none 0 0] OB5.out (by kernel_rfl) rfl (by kernel_rfl) ?_))
 have C6:=hid (C5.out.row lt (.head _) OB5.out (new:=(#[.int .i64 4,.slice none 0 0,.bool false,.slice none 0 0,.int .i64 i,.bool la,.int .i64 lk,.int .i64 ln,.string ⟨#[]⟩,.bool false,.slice none 0 0,.bool ra,.int .i64 rk,.int .i64 rn,.string ⟨#[]⟩,.bool false,.slice none 0 0]:Array Value)))
 clear C5 OB5
 generalize (World.setRow _ _ _)=W6 at C6 ⊢
 have x0:=C6.out.cell (b:=w.heap.size) (.head _) 0 _ rfl
 have x1:=C6.out.cell (b:=w.heap.size) (.head _) 1 _ rfl
 have x2:=C6.out.cell (b:=w.heap.size) (.head _) 2 _ rfl
 have x3:=C6.out.cell (b:=w.heap.size) (.head _) 3 _ rfl
 have x4:=C6.out.cell (b:=w.heap.size) (.head _) 4 _ rfl
 have x5:=C6.out.cell (b:=w.heap.size) (.head _) 5 _ rfl
 have x6:=C6.out.cell (b:=w.heap.size) (.head _) 6 _ rfl
 have x7:=C6.out.cell (b:=w.heap.size) (.head _) 7 _ rfl
 have x8:=C6.out.cell (b:=w.heap.size) (.head _) 8 _ rfl
 have x9:=C6.out.cell (b:=w.heap.size) (.head _) 9 _ rfl
 have x10:=C6.out.cell (b:=w.heap.size) (.head _) 10 _ rfl
 have x11:=C6.out.cell (b:=w.heap.size) (.head _) 11 _ rfl
 have x12:=C6.out.cell (b:=w.heap.size) (.head _) 12 _ rfl
 have x13:=C6.out.cell (b:=w.heap.size) (.head _) 13 _ rfl
 have x14:=C6.out.cell (b:=w.heap.size) (.head _) 14 _ rfl
 have x15:=C6.out.cell (b:=w.heap.size) (.head _) 15 _ rfl
 have x16:=C6.out.cell (b:=w.heap.size) (.head _) 16 _ rfl
 have xl:=(C6.out.bs _ (.head _)).lt
 refine bodyPost_ret (v:=.agg #[.int .i64 4,.slice none 0 0,.bool false,.slice none 0 0,.int .i64 i,.bool la,.int .i64 lk,.int .i64 ln,.string ⟨#[]⟩,.bool false,.slice none 0 0,.bool ra,.int .i64 rk,.int .i64 rn,.string ⟨#[]⟩,.bool false,.slice none 0 0]) (by simp [results,results354,go_sem, *]) rfl ⟨rfl,C6.out.qf,C6.out.rt⟩
theorem or_x{r g:Nat}{en dp:Int}{u:Tok}{t0 ts:List Tok}(i:Int)(la:Bool)(lk ln:Int)(ra:Bool)(rk rn:Int)(hu:Is u ⟨#[124,124]⟩ false)(hc:XQ 354 r g t0 (u::ts) en dp i la lk ln ra rk rn): XQ 322 r g t0 (u::ts) en dp i la lk ln ra rk rn:=fun w h=>by
 have lt:=h.lt
 have glt:=h.glt
 have hL:=fun W h=>list_r (r:=r) (g:=g) (en:=en) (dp:=dp) (u:=u) (t0:=t0) (ts:=ts) i la lk ln ra rk rn hu hc W h
 have C0:=hid ((CX.start h).add #[.int .i64 0,.slice none 0 0,.bool false,.slice none 0 0,.int .i64 0,.bool false,.int .i64 0,.int .i64 0,.string ⟨#[]⟩,.bool false,.slice none 0 0,.bool false,.int .i64 0,.int .i64 0,.string ⟨#[]⟩,.bool false,.slice none 0 0] 287)
 have OB0:=hid (heap_alloc_new w (.cells #[.int .i64 0,.slice none 0 0,.bool false,.slice none 0 0,.int .i64 0,.bool false,.int .i64 0,.int .i64 0,.string ⟨#[]⟩,.bool false,.slice none 0 0,.bool false,.int .i64 0,.int .i64 0,.string ⟨#[]⟩,.bool false,.slice none 0 0] 287))
 clear h hc
 go_enter func322,ntmps322
 go_wp2_with fail
 generalize (w.alloc _)=W0 at C0 OB0 ⊢
 refine (hL _ C0.out.rt).mono ?_;rintro e w1 ⟨rfl,hf,hn1⟩
 have C5:=hid (C0.out.step hf hn1)
 have OB5:=hid (hf.blk (C0.out.bs _ (.head _)).lt (by simp;omega) OB0.out)
 clear C0 hf hn1 hL OB0
 go_wp2_with (first|((with_reducible show wpList _ _ _ (⟨_,Op.store _ _ _,_,_,_,_⟩ ::_) _ _);refine wpList_store_row rfl 287 _ _ rfl w.heap.size #[.int .i64 4,.slice none 0 0,.bool false,.slice none 0 0,.int .i64 i,.bool la,.int .i64 lk,.int .i64 ln,.string ⟨#[]⟩,.bool false,.slice none 0 0,.bool ra,.int .i64 rk,.int .i64 rn,.string ⟨#[]⟩,.bool false,.slice none 0 0] rfl rfl 287 #[.int .i64 0,.slice none 0 0,.bool false,.slice none 0 0,.int .i64 0,.bool false,.int .i64 0,.int .i64 0,.string ⟨#[]⟩,.bool false,.slice none 0 0,.bool false,.int .i64 0,.int .i64 0,.string ⟨#[]⟩,.bool false,.slice none 0 0] OB5.out (by kernel_rfl) rfl (by kernel_rfl) ?_))
 have C6:=hid (C5.out.row lt (.head _) OB5.out (new:=(#[.int .i64 4,.slice none 0 0,.bool false,.slice none 0 0,.int .i64 i,.bool la,.int .i64 lk,.int .i64 ln,.string ⟨#[]⟩,.bool false,.slice none 0 0,.bool ra,.int .i64 rk,.int .i64 rn,.string ⟨#[]⟩,.bool false,.slice none 0 0]:Array Value)))
 clear C5 OB5
 generalize (World.setRow _ _ _)=W6 at C6 ⊢
 have x0:=C6.out.cell (b:=w.heap.size) (.head _) 0 _ rfl
 have x1:=C6.out.cell (b:=w.heap.size) (.head _) 1 _ rfl
 have x2:=C6.out.cell (b:=w.heap.size) (.head _) 2 _ rfl
 have x3:=C6.out.cell (b:=w.heap.size) (.head _) 3 _ rfl
 have x4:=C6.out.cell (b:=w.heap.size) (.head _) 4 _ rfl
 have x5:=C6.out.cell (b:=w.heap.size) (.head _) 5 _ rfl
 have x6:=C6.out.cell (b:=w.heap.size) (.head _) 6 _ rfl
 have x7:=C6.out.cell (b:=w.heap.size) (.head _) 7 _ rfl
 have x8:=C6.out.cell (b:=w.heap.size) (.head _) 8 _ rfl
 have x9:=C6.out.cell (b:=w.heap.size) (.head _) 9 _ rfl
 have x10:=C6.out.cell (b:=w.heap.size) (.head _) 10 _ rfl
 have x11:=C6.out.cell (b:=w.heap.size) (.head _) 11 _ rfl
 have x12:=C6.out.cell (b:=w.heap.size) (.head _) 12 _ rfl
 have x13:=C6.out.cell (b:=w.heap.size) (.head _) 13 _ rfl
 have x14:=C6.out.cell (b:=w.heap.size) (.head _) 14 _ rfl
 have x15:=C6.out.cell (b:=w.heap.size) (.head _) 15 _ rfl
 have x16:=C6.out.cell (b:=w.heap.size) (.head _) 16 _ rfl
 have xl:=(C6.out.bs _ (.head _)).lt
 refine bodyPost_ret (v:=.agg #[.int .i64 4,.slice none 0 0,.bool false,.slice none 0 0,.int .i64 i,.bool la,.int .i64 lk,.int .i64 ln,.string ⟨#[]⟩,.bool false,.slice none 0 0,.bool ra,.int .i64 rk,.int .i64 rn,.string ⟨#[]⟩,.bool false,.slice none 0 0]) (by simp [results,results322,go_sem, *]) rfl ⟨rfl,C6.out.qf,C6.out.rt⟩
end Nn
end Go.Proofs.YtjcioljdlfdnbaaGreatDoor
