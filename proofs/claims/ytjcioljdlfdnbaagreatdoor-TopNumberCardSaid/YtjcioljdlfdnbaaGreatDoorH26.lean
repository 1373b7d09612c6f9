/- Part 26: lemmas for TopNumber; no conditions. -/
import Derived.Test.YtjcioljdlfdnbaaGreatDoorH25
set_option linter.unusedVariables false
set_option linter.unusedSimpArgs false
set_option maxRecDepth 100000
set_option maxHeartbeats 2000000
open Go.Proofs.Tryz
namespace Go.Proofs.YtjcioljdlfdnbaaGreatDoor
namespace Nn
open Go.RowKit
attribute [local go_sem] run_store_nilFunc run_store_func
structure Mf (gp cp gs cs gl cl gi ci p:Nat) (k:Int) (g:Nat) (W:World):Prop where
 lt:g<W.heap.size
 c0:W.cell? ⟨g,0,none⟩=some (.slice (some ⟨gp,0,none⟩) 2 cp)
 c1:W.cell? ⟨g,1,none⟩=some (.slice (some ⟨gs,0,none⟩) 1 cs)
 c2:W.cell? ⟨g,2,none⟩=some (.slice (some ⟨gl,0,none⟩) 1 cl)
 c3:W.cell? ⟨g,3,none⟩=some (.slice (some ⟨gi,0,none⟩) 2 ci)
 c4:W.cell? ⟨g,4,none⟩=some (.pointer (some ⟨p,0,none⟩))
 c5:W.cell? ⟨g,5,none⟩=some (.int .i64 (-1))
 c6:W.cell? ⟨g,6,none⟩=some (.int .i64 k)
 z6:W.frozen? ⟨g,6,none⟩=false
theorem Mf.of{W W':World}{g:Nat}{gp cp gs cs gl cl gi ci p:Nat}{k:Int}(h:Mf gp cp gs cs gl cl gi ci p k g W)(hs:W.heap.size≤W'.heap.size)(hc:∀c,W'.cell? ⟨g,c,none⟩=W.cell? ⟨g,c,none⟩)(hf:∀c,W'.frozen? ⟨g,c,none⟩=W.frozen? ⟨g,c,none⟩): Mf gp cp gs cs gl cl gi ci p k g W':=⟨Nat.lt_of_lt_of_le h.lt hs,(hc 0).trans h.c0,(hc 1).trans h.c1,(hc 2).trans h.c2,(hc 3).trans h.c3,(hc 4).trans h.c4,(hc 5).trans h.c5,(hc 6).trans h.c6,(hf 6).trans h.z6⟩
theorem Mf.below{W W':World}{g:Nat}{gp cp gs cs gl cl gi ci p:Nat}{k:Int}(h:Mf gp cp gs cs gl cl gi ci p k g W)(hb:Below W.heap.size W W'): Mf gp cp gs cs gl cl gi ci p k g W':=h.of hb.size (fun c=>hb.cell (p:=⟨g,c,none⟩) h.lt) (fun c=>hb.frozen (p:=⟨g,c,none⟩) h.lt)
theorem Mf.set{W:World}{g:Nat}{gp cp gs cs gl cl gi ci p:Nat}{k:Int}(h:Mf gp cp gs cs gl cl gi ci p k g W){a:Addr}(hne:a.block≠g)(v:Value): Mf gp cp gs cs gl cl gi ci p k g (W.setCell a v):=h.of (by simp [World.setCell]) (fun c=>qO (by intro e;exact hne (by rw [e]))) (fun c=>qF)
theorem Mf.setK{W:World}{g:Nat}{gp cp gs cs gl cl gi ci p:Nat}{k:Int}(h:Mf gp cp gs cs gl cl gi ci p k g W)(k':Int): Mf gp cp gs cs gl cl gi ci p k' g (W.setCell ⟨g,6,none⟩ (.int .i64 k')):=⟨by simpa [World.setCell] using h.lt,(qO tq9).trans h.c0,(qO tq9).trans h.c1,(qO tq9).trans h.c2,(qO tq9).trans h.c3,(qO tq9).trans h.c4,(qO tq9).trans h.c5,World.cell?_setCell_same' _ _ _ (by rw [h.c6];rfl),qF.trans h.z6⟩
structure Wj (m:Nat) (fd:Value) (e:Int) (g:Nat) (W:World):Prop where
 lt:g<W.heap.size
 c0:W.cell? ⟨g,0,none⟩=some (.pointer (some ⟨m,0,none⟩))
 c1:W.cell? ⟨g,1,none⟩=some (.bool false)
 c2:W.cell? ⟨g,2,none⟩=some (.int .i64 1)
 c3:W.cell? ⟨g,3,none⟩=some (.int .i64 1)
 c4:W.cell? ⟨g,4,none⟩=some (.slice none 0 0)
 c5:W.cell? ⟨g,5,none⟩=some (fd)
 c6:W.cell? ⟨g,6,none⟩=some (.int .i64 0)
 c7:W.cell? ⟨g,7,none⟩=some (.int .i64 e)
 z5:W.frozen? ⟨g,5,none⟩=false
 z7:W.frozen? ⟨g,7,none⟩=false
theorem Wj.of{W W':World}{g:Nat}{m:Nat}{fd:Value}{e:Int}(h:Wj m fd e g W)(hs:W.heap.size≤W'.heap.size)(hc:∀c,W'.cell? ⟨g,c,none⟩=W.cell? ⟨g,c,none⟩)(hf:∀c,W'.frozen? ⟨g,c,none⟩=W.frozen? ⟨g,c,none⟩): Wj m fd e g W':=⟨Nat.lt_of_lt_of_le h.lt hs,(hc 0).trans h.c0,(hc 1).trans h.c1,(hc 2).trans h.c2,(hc 3).trans h.c3,(hc 4).trans h.c4,(hc 5).trans h.c5,(hc 6).trans h.c6,(hc 7).trans h.c7,(hf 5).trans h.z5,(hf 7).trans h.z7⟩
theorem Wj.below{W W':World}{g:Nat}{m:Nat}{fd:Value}{e:Int}(h:Wj m fd e g W)(hb:Below W.heap.size W W'): Wj m fd e g W':=h.of hb.size (fun c=>hb.cell (p:=⟨g,c,none⟩) h.lt) (fun c=>hb.frozen (p:=⟨g,c,none⟩) h.lt)
theorem Wj.set{W:World}{g:Nat}{m:Nat}{fd:Value}{e:Int}(h:Wj m fd e g W){a:Addr}(hne:a.block≠g)(v:Value): Wj m fd e g (W.setCell a v):=h.of (by simp [World.setCell]) (fun c=>qO (by intro e;exact hne (by rw [e]))) (fun c=>qF)
theorem Wj.setF{W:World}{g:Nat}{m:Nat}{fd:Value}{e:Int}(h:Wj m fd e g W)(fd':Value): Wj m fd' e g (W.setCell ⟨g,5,none⟩ (fd')):=⟨by simpa [World.setCell] using h.lt,(qO tq9).trans h.c0,(qO tq9).trans h.c1,(qO tq9).trans h.c2,(qO tq9).trans h.c3,(qO tq9).trans h.c4,World.cell?_setCell_same' _ _ _ (by rw [h.c5];rfl),(qO tq9).trans h.c6,(qO tq9).trans h.c7,qF.trans h.z5,qF.trans h.z7⟩
theorem Wj.setE{W:World}{g:Nat}{m:Nat}{fd:Value}{e:Int}(h:Wj m fd e g W)(e':Int): Wj m fd e' g (W.setCell ⟨g,7,none⟩ (.int .i64 e')):=⟨by simpa [World.setCell] using h.lt,(qO tq9).trans h.c0,(qO tq9).trans h.c1,(qO tq9).trans h.c2,(qO tq9).trans h.c3,(qO tq9).trans h.c4,(qO tq9).trans h.c5,(qO tq9).trans h.c6,World.cell?_setCell_same' _ _ _ (by rw [h.c7];rfl),qF.trans h.z5,qF.trans h.z7⟩
theorem vstep_f(gp cp gs cs gl cl gi ci p m:Nat)(w:World)(hM:Mf gp cp gs cs gl cl gi ci p 0 m w): Calls prog 228 #[.pointer (some ⟨m,0,none⟩)] w fun e w'=>e=.returned (.bool true)∧w'=w.setCell ⟨m,6,none⟩ (.int .i64 1):=by
 go_enter func228,ntmps228
 have mlt:=hM.lt
 have:m<w.heap.size+1:=oM
 have:m<w.heap.size+1+1:=oM
 have:m<w.heap.size+1+1+1:=oM
 have:m<w.heap.size+1+1+1+1:=oM
 have:m<w.heap.size+1+1+1+1+1:=oM
 have:m<w.heap.size+1+1+1+1+1+1:=oM
 have:m<w.heap.size+1+1+1+1+1+1+1:=oM
 have m0:=hM.c0
 have m1:=hM.c1
 have m2:=hM.c2
 have m3:=hM.c3
 have m4:=hM.c4
 have m5:=hM.c5
 have m6:=hM.c6
 have mz6:=hM.z6
 go_wp2_with fail
 go_ret
 exact ⟨rfl,rfl⟩
theorem down_f(gp cp gs cs gl cl gi ci p m a:Nat)(sg n:Int)(fd:Value)(mo:Int)(w:World)(hW:Wk m (.slice none 0 0) fd mo a w)(hM:Mf gp cp gs cs gl cl gi ci p 0 m w)(hC:Cdf gp gs gl gi sg n w): Calls prog 283 #[.pointer (some ⟨a,0,none⟩),.int .i64 0,.agg #[.pointer (some ⟨p,0,none⟩),.int .i64 (-1)]] w fun e w'=>DownP w a p e w':=by
 obtain ⟨i0,hi0,hz0,hs0,hb0⟩ :=info_parts info382
 go_enter func283,ntmps283
 have alt:=hW.lt
 have:a<w.heap.size+1:=oM
 have:a<w.heap.size+1+1:=oM
 have:a<w.heap.size+1+1+1:=oM
 have:a<w.heap.size+1+1+1+1:=oM
 have:a<w.heap.size+1+1+1+1+1:=oM
 have:a<w.heap.size+1+1+1+1+1+1:=oM
 have:a<w.heap.size+1+1+1+1+1+1+1:=oM
 have aw0:=hW.c0
 have aw1:=hW.c1
 have aw2:=hW.c2
 have aw3:=hW.c3
 have aw4:=hW.c4
 have aw5:=hW.c5
 have aw6:=hW.c6
 have aw7:=hW.c7
 have awz4:=hW.z4
 have awz5:=hW.z5
 have awz7:=hW.z7
 have mlt:=hM.lt
 have:m<w.heap.size+1:=oM
 have:m<w.heap.size+1+1:=oM
 have:m<w.heap.size+1+1+1:=oM
 have:m<w.heap.size+1+1+1+1:=oM
 have:m<w.heap.size+1+1+1+1+1:=oM
 have:m<w.heap.size+1+1+1+1+1+1:=oM
 have:m<w.heap.size+1+1+1+1+1+1+1:=oM
 have m0:=hM.c0
 have m1:=hM.c1
 have m2:=hM.c2
 have m3:=hM.c3
 have m4:=hM.c4
 have m5:=hM.c5
 have m6:=hM.c6
 have mz6:=hM.z6
 have gslt:=hC.s.lt
 have:gs<w.heap.size+1:=oM
 have:gs<w.heap.size+1+1:=oM
 have:gs<w.heap.size+1+1+1:=oM
 have:gs<w.heap.size+1+1+1+1:=oM
 have:gs<w.heap.size+1+1+1+1+1:=oM
 have:gs<w.heap.size+1+1+1+1+1+1:=oM
 have:gs<w.heap.size+1+1+1+1+1+1+1:=oM
 have ds0:=hC.s.c 0 _ rfl
 have ds1:=hC.s.c 1 _ rfl
 have ds2:=hC.s.c 2 _ rfl
 go_wp2_with fail
 go_region
 go_wp2_with fail
 go_region_law ((first|((first|refine step_push rfl _ _ 297 rfl 359 i0 _ 7 56 underlying297 hi0 hz0 hs0 hb0 rfl oM (Acc.nil qR 359 7) rfl rfl (by first|rfl|simp) rfl rfl oM oM ?_|refine step_push_d rfl _ _ 297 rfl 359 i0 _ 7 56 underlying297 hi0 hz0 hs0 hb0 rfl oM (Acc.nil qR 359 7) rfl rfl (by first|rfl|simp) rfl rfl oM oM ?_|refine step_push_dd rfl _ _ 297 rfl 359 i0 _ 7 56 underlying297 hi0 hz0 hs0 hb0 rfl oM (Acc.nil qR 359 7) rfl rfl (by first|rfl|simp) rfl rfl oM oM ?_|refine step_push_d3 rfl _ _ 297 rfl 359 i0 _ 7 56 underlying297 hi0 hz0 hs0 hb0 rfl oM (Acc.nil qR 359 7) rfl rfl (by first|rfl|simp) rfl rfl oM oM ?_);intro gn cn w3 hA;have xa0:=hA.bel.cl a 4;(simp [go_sem, *] at xa0);have xb0:=hA.bel.fz a 4;(simp [go_sem, *] at xb0);have HA:=hid hA;have HB:=bel_step (w:=w) tq4 hA.bel;clear hA)))
 all_goals have hr:=HA.out.row
 all_goals have hr1:=hr.1
 all_goals simp at hr1
 all_goals exact bodyPost_end (v:=.tuple #[]) (by simp [results,results283,go_sem]) rfl ⟨rfl,gn,cn,w3,rfl,HB.out,by omega,⟨hr.2.1,hr.2.2 0 _ rfl,hr.2.2 1 _ rfl,hr.2.2 2 _ rfl,hr.2.2 3 _ rfl,hr.2.2 4 _ rfl,hr.2.2 5 _ rfl,hr.2.2 6 _ rfl,HA.out.frz 1,HA.out.frz 6⟩⟩
theorem meet_f(gp cp gs cs gl cl gi ci p m a:Nat)(sg n:Int)(fd:Value)(mo:Int)(w:World)(hW:Wk m (.slice none 0 0) fd mo a w)(hM:Mf gp cp gs cs gl cl gi ci p 0 m w)(hC:Cdf gp gs gl gi sg n w): Calls prog 224 #[.pointer (some ⟨a,0,none⟩),.int .i64 0,.agg #[.pointer (some ⟨p,0,none⟩),.int .i64 (-1)]] w fun e w'=>DownP w a p e w':=by
 go_enter func224,ntmps224
 have alt:=hW.lt
 have:a<w.heap.size+1:=oM
 have:a<w.heap.size+1+1:=oM
 have:a<w.heap.size+1+1+1:=oM
 have:a<w.heap.size+1+1+1+1:=oM
 have:a<w.heap.size+1+1+1+1+1:=oM
 have:a<w.heap.size+1+1+1+1+1+1:=oM
 have:a<w.heap.size+1+1+1+1+1+1+1:=oM
 have aw0:=hW.c0
 have aw1:=hW.c1
 have aw2:=hW.c2
 have aw3:=hW.c3
 have aw4:=hW.c4
 have aw5:=hW.c5
 have aw6:=hW.c6
 have aw7:=hW.c7
 have awz4:=hW.z4
 have awz5:=hW.z5
 have awz7:=hW.z7
 have mlt:=hM.lt
 have:m<w.heap.size+1:=oM
 have:m<w.heap.size+1+1:=oM
 have:m<w.heap.size+1+1+1:=oM
 have:m<w.heap.size+1+1+1+1:=oM
 have:m<w.heap.size+1+1+1+1+1:=oM
 have:m<w.heap.size+1+1+1+1+1+1:=oM
 have:m<w.heap.size+1+1+1+1+1+1+1:=oM
 have m0:=hM.c0
 have m1:=hM.c1
 have m2:=hM.c2
 have m3:=hM.c3
 have m4:=hM.c4
 have m5:=hM.c5
 have m6:=hM.c6
 have mz6:=hM.z6
 go_wp2_with fail
 refine (down_f gp cp gs cs gl cl gi ci p m a sg n fd mo _ (hW.below tq4) (hM.below tq4) (hC.below tq4)).mono ?_;rintro e w1 ⟨rfl,g,c,W1,rfl,hb,hg,hF⟩
 have HB:=bel_step (w:=w) tq4 hb
 simp at hg
 go_wp2_with fail
 try simp only [Exit.inBlock,Exit.then]
 exact bodyPost_ret (v:=.tuple #[]) (by simp [results,results224,go_sem]) rfl ⟨rfl,g,c,W1,rfl,HB.out,by omega,hF⟩
theorem child_f(gp cp gs cs gl cl gi ci p m a:Nat)(sg n:Int)(st:Value)(k mo:Int)(hmo:1≤mo)(w:World)(hW:Wk m st (.slice none 0 0) mo a w)(hM:Mf gp cp gs cs gl cl gi ci p k m w)(hC:Cdf gp gs gl gi sg n w): Calls prog 226 #[.pointer (some ⟨a,0,none⟩),.int .i64 0,.int .i64 0,.agg #[.pointer (some ⟨p,0,none⟩),.int .i64 1]] w fun e w'=>MeetP w a p e w':=by
 go_enter func226,ntmps226
 have alt:=hW.lt
 have:a<w.heap.size+1:=oM
 have:a<w.heap.size+1+1:=oM
 have:a<w.heap.size+1+1+1:=oM
 have:a<w.heap.size+1+1+1+1:=oM
 have:a<w.heap.size+1+1+1+1+1:=oM
 have:a<w.heap.size+1+1+1+1+1+1:=oM
 have:a<w.heap.size+1+1+1+1+1+1+1:=oM
 have aw0:=hW.c0
 have aw1:=hW.c1
 have aw2:=hW.c2
 have aw3:=hW.c3
 have aw4:=hW.c4
 have aw5:=hW.c5
 have aw6:=hW.c6
 have aw7:=hW.c7
 have awz4:=hW.z4
 have awz5:=hW.z5
 have awz7:=hW.z7
 have mlt:=hM.lt
 have:m<w.heap.size+1:=oM
 have:m<w.heap.size+1+1:=oM
 have:m<w.heap.size+1+1+1:=oM
 have:m<w.heap.size+1+1+1+1:=oM
 have:m<w.heap.size+1+1+1+1+1:=oM
 have:m<w.heap.size+1+1+1+1+1+1:=oM
 have:m<w.heap.size+1+1+1+1+1+1+1:=oM
 have m0:=hM.c0
 have m1:=hM.c1
 have m2:=hM.c2
 have m3:=hM.c3
 have m4:=hM.c4
 have m5:=hM.c5
 have m6:=hM.c6
 have mz6:=hM.z6
 have gllt:=hC.l.lt
 have:gl<w.heap.size+1:=oM
 have:gl<w.heap.size+1+1:=oM
 have:gl<w.heap.size+1+1+1:=oM
 have:gl<w.heap.size+1+1+1+1:=oM
 have:gl<w.heap.size+1+1+1+1+1:=oM
 have:gl<w.heap.size+1+1+1+1+1+1:=oM
 have:gl<w.heap.size+1+1+1+1+1+1+1:=oM
 have dl0:=hC.l.c 0 _ rfl
 have dl1:=hC.l.c 1 _ rfl
 have dl2:=hC.l.c 2 _ rfl
 have dl3:=hC.l.c 3 _ rfl
 have dl4:=hC.l.c 4 _ rfl
 have dl5:=hC.l.c 5 _ rfl
 have dl6:=hC.l.c 6 _ rfl
 have dl7:=hC.l.c 7 _ rfl
 go_wp2_with fail
 refine (meet_1 p m a st mo hmo _ (hW.below tq4)).mono ?_;rintro e w2 ⟨rfl,g,c,W1,rfl,hb,hg,hF⟩
 have HB:=bel_step (w:=w) tq4 hb
 simp at hg
 go_wp2_with fail
 exact bodyPost_end (v:=.tuple #[]) (by simp [results,results226,go_sem]) rfl ⟨rfl,g,c,W1,rfl,HB.out,by omega,hF⟩
def MeetJ (w:World) (a m p:Nat) (e:Ending) (w':World):Prop:=e=.returned (.tuple #[])∧∃g c,1≤c∧Wj m (.slice (some ⟨g,0,none⟩) 1 c) 9 a w'∧Cw p g w'∧Kx [a] w w'∧w.heap.size≤g
theorem meet_2(p m a:Nat)(w:World)(hW:Wj m (.slice none 0 0) 0 a w): Calls prog 224 #[.pointer (some ⟨a,0,none⟩),.int .i64 1,.agg #[.pointer (some ⟨p,0,none⟩),.int .i64 1]] w fun e w'=>MeetJ w a m p e w':=by
 obtain ⟨i0,hi0,hz0,hs0,hb0⟩ :=info_parts info139
 go_enter func224,ntmps224
 have alt:=hW.lt
 have:a<w.heap.size+1:=oM
 have:a<w.heap.size+1+1:=oM
 have:a<w.heap.size+1+1+1:=oM
 have:a<w.heap.size+1+1+1+1:=oM
 have:a<w.heap.size+1+1+1+1+1:=oM
 have:a<w.heap.size+1+1+1+1+1+1:=oM
 have:a<w.heap.size+1+1+1+1+1+1+1:=oM
 have aw0:=hW.c0
 have aw1:=hW.c1
 have aw2:=hW.c2
 have aw3:=hW.c3
 have aw4:=hW.c4
 have aw5:=hW.c5
 have aw6:=hW.c6
 have aw7:=hW.c7
 have awz5:=hW.z5
 have awz7:=hW.z7
 go_wp2_with fail
 go_region_law ((first|((first|refine step_push rfl _ _ 122 rfl 128 i0 _ 2 16 underlying122 hi0 hz0 hs0 hb0 rfl oM (Acc.nil qR 128 2) rfl rfl (by first|rfl|simp) rfl rfl oM oM ?_|refine step_push_d rfl _ _ 122 rfl 128 i0 _ 2 16 underlying122 hi0 hz0 hs0 hb0 rfl oM (Acc.nil qR 128 2) rfl rfl (by first|rfl|simp) rfl rfl oM oM ?_|refine step_push_dd rfl _ _ 122 rfl 128 i0 _ 2 16 underlying122 hi0 hz0 hs0 hb0 rfl oM (Acc.nil qR 128 2) rfl rfl (by first|rfl|simp) rfl rfl oM oM ?_|refine step_push_d3 rfl _ _ 122 rfl 128 i0 _ 2 16 underlying122 hi0 hz0 hs0 hb0 rfl oM (Acc.nil qR 128 2) rfl rfl (by first|rfl|simp) rfl rfl oM oM ?_);intro gn cn w3 hA;have xa0:=hA.bel.cl a 5;(simp [go_sem, *] at xa0);have xb0:=hA.bel.fz a 5;(simp [go_sem, *] at xb0);have xa1:=hA.bel.cl a 6;(simp [go_sem, *] at xa1);have xa2:=hA.bel.cl a 7;(simp [go_sem, *] at xa2);have xb2:=hA.bel.fz a 7;(simp [go_sem, *] at xb2);have HA:=hid hA;have HB:=bel_step (w:=w) tq4 hA.bel;clear hA)))
 all_goals have hr:=HA.out.row
 all_goals have hr1:=hr.1
 all_goals simp at hr1
 all_goals have hg:=hr.2.1
 all_goals have hCw:Hid (Cw p gn w3):=hid ⟨hr.2.1,hr.2.2 0 _ rfl,hr.2.2 1 _ rfl⟩
 all_goals have hcap:=hid HA.out.cap
 all_goals have hwj:Hid (Wj m (.slice none 0 0) 0 a w3):=hid (hW.below HB.out)
 all_goals clear hr HA
 all_goals have ls:=HB.out.size
 all_goals have ga:¬gn=a:=oM
 all_goals go_wp2
 all_goals go_region
 all_goals go_wp2
 all_goals exact bodyPost_end (v:=.tuple #[]) (by simp [results,results224,go_sem]) rfl ⟨rfl,gn,cn,hcap.out,by first|exact ((hwj.out.setF _).setE 9).below qR.drew|exact ((hwj.out.setF _).below qR.drew).setE 9,by repeat' (first|refine Cw.below ?_ qR.drew|refine Cw.set ?_ (fun e=>ga e.symm) _|exact hCw.out),by repeat' (first|refine Kx.drew ?_|refine Kx.set ?_ (.inl sM) _|exact Kx.of HB.out),by omega⟩
end Nn
namespace Nn
open Go.RowKit
theorem nfound_3(w:World): Calls prog 296 #[.int .i64 3,.bool false] w fun e w'=>e=.returned (.tuple #[.int .i64 0,.int .i64 7])∧w=w':=by
 go_enter func296,ntmps296
 go_wp2_with fail
 go_ret2
 exact ⟨rfl,rfl⟩
theorem nNext_any(p b:Nat)(w:World)(h:Ns w p b): Calls prog 238 #[.pointer (some ⟨p,0,none⟩),.int .i64 1] w fun e w'=>e=.returned (.tuple #[.int .i64 0,.int .i64 7])∧∃m,w'=w.drewN m:=by
 go_enter func238,ntmps238
 go_wp2_with fail
 refine (node_1 p b _ h).mono ?_;rintro e w1 ⟨rfl,m1,rfl⟩
 go_wp2_with fail
 refine (nclose_any p b _ (h.drewN _)).mono ?_;rintro e w1 ⟨rfl,m2,rfl⟩
 go_wp2_with fail
 refine (node_3 p b _ (h.drewN _)).mono ?_;rintro e w1 ⟨rfl,m3,rfl⟩
 go_wp2_with fail
 refine (nfound_3 _).mono ?_;rintro e w1 ⟨rfl,rfl⟩
 go_wp2_with fail
 go_ret2
 exact ⟨rfl,_,rfl⟩
theorem cstep_1(p n L:Nat)(T V:ByteArray)(hD:Doc T V n L)(w:World)(h:Ix w p T n): Calls prog 181 #[.agg #[.pointer (some ⟨p,0,none⟩),.int .i64 1]] w fun e w'=>e=.returned (.tuple #[.agg #[.pointer (some ⟨p,0,none⟩),.int .i64 0],.bool false])∧Below w.heap.size w w':=by
 obtain ⟨sq,b,ns,a1,x0,x1,x2,x3,g1,g2,g3⟩ :=id h
 have hNe:=xnest_q p ns w a1 x2
 have hPa:∀(W:World) (hW:Below w.heap.size w W),_:=fun W hW=>nNext_any ns b W (g2.below hW)
 go_enter func181,ntmps181
 go_wp2_with fail
 go_quiet ((first|(go_at_call 165;exact quiet_ex (hNe _ tq4))|(go_at_call 238;exact quiet_ex (hPa _ tq4))))
 go_wp2_with fail
 try simp only [Exit.inBlock,Exit.then]
 refine bodyPost_ret (v:=.tuple #[.agg #[.pointer (some ⟨p,0,none⟩),.int .i64 0],.bool false]) (by simp [results,results181,go_sem]) rfl ⟨rfl,tq4⟩
theorem next_1(p n L:Nat)(T V:ByteArray)(hD:Doc T V n L)(w:World)(h:Ix w p T n): Calls prog 103 #[.agg #[.pointer (some ⟨p,0,none⟩),.int .i64 1]] w fun e w'=>e=.returned (.tuple #[.agg #[.pointer none,.int .i64 0],.bool false])∧Below w.heap.size w w':=by
 go_enter func103,ntmps103
 go_wp2_with fail
 refine (up_1 p n L T V hD _ (h.below tq4)).mono ?_;rintro e w1 ⟨rfl,hb1⟩
 have s1:=hb1.size;try simp at s1
 try (have:w.heap.size<w1.heap.size:=oM)
 try (have:w.heap.size<w1.heap.size+1:=oM)
 try (have:w.heap.size<w1.heap.size+1+1:=oM)
 try (have:w.heap.size+1<w1.heap.size:=oM)
 try (have:w.heap.size+1<w1.heap.size+1:=oM)
 try (have:w.heap.size+1<w1.heap.size+1+1:=oM)
 try (have:w.heap.size+2<w1.heap.size:=oM)
 try (have:w.heap.size+2<w1.heap.size+1:=oM)
 try (have:w.heap.size+2<w1.heap.size+1+1:=oM)
 try (have e1_0_0_0:=hb1.cl w.heap.size 0;simp [go_sem, *] at e1_0_0_0)
 try (have f1_0_0_0:=hb1.fz w.heap.size 0;simp [go_sem, *] at f1_0_0_0)
 try (have e1_0_0_1:=hb1.cl w.heap.size 1;simp [go_sem, *] at e1_0_0_1)
 try (have f1_0_0_1:=hb1.fz w.heap.size 1;simp [go_sem, *] at f1_0_0_1)
 try (have e1_0_1_0:=hb1.cl (w.heap.size+1) 0;simp [go_sem, *] at e1_0_1_0)
 try (have f1_0_1_0:=hb1.fz (w.heap.size+1) 0;simp [go_sem, *] at f1_0_1_0)
 try (have e1_0_1_1:=hb1.cl (w.heap.size+1) 1;simp [go_sem, *] at e1_0_1_1)
 try (have f1_0_1_1:=hb1.fz (w.heap.size+1) 1;simp [go_sem, *] at f1_0_1_1)
 try (have e1_0_2_0:=hb1.cl (w.heap.size+2) 0;simp [go_sem, *] at e1_0_2_0)
 try (have f1_0_2_0:=hb1.fz (w.heap.size+2) 0;simp [go_sem, *] at f1_0_2_0)
 try (have e1_0_2_1:=hb1.cl (w.heap.size+2) 1;simp [go_sem, *] at e1_0_2_1)
 try (have f1_0_2_1:=hb1.fz (w.heap.size+2) 1;simp [go_sem, *] at f1_0_2_1)
 have HB1:=bel_step (w:=w) tq4 hb1
 clear hb1
 go_wp2_with fail
 refine (cstep_1 p n L T V hD _ (h.below tq4)).mono ?_;rintro e w2 ⟨rfl,hb2⟩
 have s2:=hb2.size;try simp at s2
 try (have:w.heap.size<w2.heap.size:=oM)
 try (have:w.heap.size<w2.heap.size+1:=oM)
 try (have:w.heap.size<w2.heap.size+1+1:=oM)
 try (have:w.heap.size+1<w2.heap.size:=oM)
 try (have:w.heap.size+1<w2.heap.size+1:=oM)
 try (have:w.heap.size+1<w2.heap.size+1+1:=oM)
 try (have:w.heap.size+2<w2.heap.size:=oM)
 try (have:w.heap.size+2<w2.heap.size+1:=oM)
 try (have:w.heap.size+2<w2.heap.size+1+1:=oM)
 try (have e2_0_0_0:=hb2.cl w.heap.size 0;simp [go_sem, *] at e2_0_0_0)
 try (have f2_0_0_0:=hb2.fz w.heap.size 0;simp [go_sem, *] at f2_0_0_0)
 try (have e2_0_0_1:=hb2.cl w.heap.size 1;simp [go_sem, *] at e2_0_0_1)
 try (have f2_0_0_1:=hb2.fz w.heap.size 1;simp [go_sem, *] at f2_0_0_1)
 try (have e2_0_1_0:=hb2.cl (w.heap.size+1) 0;simp [go_sem, *] at e2_0_1_0)
 try (have f2_0_1_0:=hb2.fz (w.heap.size+1) 0;simp [go_sem, *] at f2_0_1_0)
 try (have e2_0_1_1:=hb2.cl (w.heap.size+1) 1;simp [go_sem, *] at e2_0_1_1)
 try (have f2_0_1_1:=hb2.fz (w.heap.size+1) 1;simp [go_sem, *] at f2_0_1_1)
 try (have e2_0_2_0:=hb2.cl (w.heap.size+2) 0;simp [go_sem, *] at e2_0_2_0)
 try (have f2_0_2_0:=hb2.fz (w.heap.size+2) 0;simp [go_sem, *] at f2_0_2_0)
 try (have e2_0_2_1:=hb2.cl (w.heap.size+2) 1;simp [go_sem, *] at e2_0_2_1)
 try (have f2_0_2_1:=hb2.fz (w.heap.size+2) 1;simp [go_sem, *] at f2_0_2_1)
 have HB2:=bel_step (w:=w) tq4 hb2
 clear hb2
 go_wp2_with fail
 try simp only [Exit.inBlock,Exit.then]
 refine bodyPost_ret (v:=.tuple #[.agg #[.pointer none,.int .i64 0],.bool false]) (by simp [results,results103,go_sem, *]) rfl ⟨rfl,tq4⟩
structure Al (p bB bC bO:Nat) (be:Bool) (i:Int) (ok:Bool) (W:World):Prop where
 b:Bk bB [.bool be] W
 c:Bk bC [.pointer (some ⟨p,0,none⟩),.int .i64 i] W
 o:Bk bO [.bool ok] W
 bc:bB≠bC
 bo:bB≠bO
 co:bC≠bO
theorem Al.below{p bB bC bO:Nat}{be:Bool}{i:Int}{ok:Bool}{W W':World}(h:Al p bB bC bO be i ok W)(hb:Below W.heap.size W W'): Al p bB bC bO be i ok W':=⟨h.b.below hb,h.c.below hb,h.o.below hb,h.bc,h.bo,h.co⟩
theorem Al.kx{S:List Nat}{p bB bC bO:Nat}{be:Bool}{i:Int}{ok:Bool}{W W':World}(h:Al p bB bC bO be i ok W)(k:Kx S W W')(h1:bB ∉ S)(h2:bC ∉ S)(h3:bO ∉ S): Al p bB bC bO be i ok W':=⟨h.b.kx k h1,h.c.kx k h2,h.o.kx k h3,h.bc,h.bo,h.co⟩
theorem all_f(p:Nat)(w:World): Calls prog 286 #[.agg #[.pointer (some ⟨p,0,none⟩),.int .i64 (-1)]] w fun e w'=>∃bB bC bO,e=.returned (.func (.func 328) #[] #[.pointer (some ⟨bB,0,none⟩),.pointer (some ⟨bC,0,none⟩),.pointer (some ⟨bO,0,none⟩)])∧Al p bB bC bO false (-1) true w'∧Below w.heap.size w w'∧w.heap.size≤bB∧w.heap.size≤bC∧w.heap.size≤bO:=by
 have:∀(fn:Fn) (first cap:Array Value) (w:World),(Instr.makeFunc fn first cap).run prog w=.ok (.func fn first cap) w:=fun _ _ _ _=>rfl
 go_enter func286,ntmps286
 go_wp2_with fail
 all_goals try simp only [Exit.inBlock,Exit.then]
 all_goals first
  | (go_ret;exact ⟨w.heap.size+1,w.heap.size,w.heap.size+1+1,rfl,⟨Bk.one sM (by simp [go_sem]) (by simp [go_sem]),Bk.two (by simp <;> omega) (by simp [go_sem]) (by simp [go_sem]) (by simp [go_sem]) (by simp [go_sem]),Bk.one sM (by simp [go_sem]) (by simp [go_sem]),by omega,by omega,by omega⟩,tq4,by omega,by omega,by omega⟩)
  | (go_ret;exact ⟨w.heap.size+1+1,w.heap.size,w.heap.size+1,rfl,⟨Bk.one sM (by simp [go_sem]) (by simp [go_sem]),Bk.two (by simp <;> omega) (by simp [go_sem]) (by simp [go_sem]) (by simp [go_sem]) (by simp [go_sem]),Bk.one sM (by simp [go_sem]) (by simp [go_sem]),by omega,by omega,by omega⟩,tq4,by omega,by omega,by omega⟩)
theorem allx_1(p n L:Nat)(T V:ByteArray)(hD:Doc T V n L)(bB bC bO:Nat)(w0:World)(hX:Ix w0 p T n)(hbB:w0.heap.size≤bB)(hbC:w0.heap.size≤bC)(hbO:w0.heap.size≤bO)(w:World)(h0:Below w0.heap.size w0 w)(hA:Al p bB bC bO false (-1) true w): Calls prog 328 #[.pointer (some ⟨bB,0,none⟩),.pointer (some ⟨bC,0,none⟩),.pointer (some ⟨bO,0,none⟩)] w fun e w'=>e=.returned (.tuple #[.agg #[.pointer (some ⟨p,0,none⟩),.int .i64 1],.bool true])∧Al p bB bC bO true 1 true w'∧Kx [bB,bC,bO] w w':=by
 have H0:=hid h0
 clear h0
 have b0:=hA.b.c 0 _ rfl
 have z0:=hA.b.z 0 sM
 have c0:=hA.c.c 0 _ rfl
 have c1:=hA.c.c 1 _ rfl
 have y0:=hA.c.z 0 sM
 have y1:=hA.c.z 1 sM
 have o0:=hA.o.c 0 _ rfl
 have x0:=hA.o.z 0 sM
 have bl:=hA.b.lt
 have cl:=hA.c.lt
 have ol:=hA.o.lt
 have n1:=hA.bc
 have n2:=hA.bo
 have n3:=hA.co
 have n1':=n1.symm
 have n2':=n2.symm
 have n3':=n3.symm
 have bl1:bB<w.heap.size+1:=oM
 have cl1:bC<w.heap.size+1:=oM
 have ol1:bO<w.heap.size+1:=oM
 have bl2:bB<w.heap.size+1+1:=oM
 have cl2:bC<w.heap.size+1+1:=oM
 have ol2:bO<w.heap.size+1+1:=oM
 have bl3:bB<w.heap.size+1+1+1:=oM
 have cl3:bC<w.heap.size+1+1+1:=oM
 have ol3:bO<w.heap.size+1+1+1:=oM
 go_enter func328,ntmps328
 go_wp2_with fail
 refine (first_r p n L T V hD _ (hX.below tq4)).mono ?_;rintro e w1 ⟨rfl,hb1⟩
 have s1:=hb1.size;try simp at s1
 have B0:=hb1.cl bB 0;simp [go_sem, *] at B0
 have Z0:=hb1.fz bB 0;simp [go_sem, *] at Z0
 have C0:=hb1.cl bC 0;simp [go_sem, *] at C0
 have C1:=hb1.cl bC 1;simp [go_sem, *] at C1
 have Y0:=hb1.fz bC 0;simp [go_sem, *] at Y0
 have Y1:=hb1.fz bC 1;simp [go_sem, *] at Y1
 have O0:=hb1.cl bO 0;simp [go_sem, *] at O0
 have X0:=hb1.fz bO 0;simp [go_sem, *] at X0
 have R0:=hb1.cl w.heap.size 0;simp [go_sem, *] at R0
 have R1:=hb1.cl w.heap.size 1;simp [go_sem, *] at R1
 have Q0:=hb1.fz w.heap.size 0;simp [go_sem, *] at Q0
 have Q1:=hb1.fz w.heap.size 1;simp [go_sem, *] at Q1
 have:bB<w1.heap.size:=oM
 have:bC<w1.heap.size:=oM
 have:bO<w1.heap.size:=oM
 have:w.heap.size<w1.heap.size:=oM
 have:¬bB=w.heap.size:=oM
 have:¬bC=w.heap.size:=oM
 have:¬bO=w.heap.size:=oM
 have:¬w.heap.size=bB:=oM
 have:¬w.heap.size=bC:=oM
 have:¬w.heap.size=bO:=oM
 have K1:Hid (Kx [bB,bC,bO] w w1):=hid (Kx.step (by repeat' (first|refine Kx.set ?_ (by first|exact Or.inr qL|(left;simp;done)|(right;simp;omega)) _|refine Kx.alloc ?_ _|refine Kx.drew ?_|refine Kx.drewN ?_ _|exact Kx.refl _ _)) hb1)
 clear hb1
 clear b0 z0 c0 c1 y0 y1 o0 x0 bl cl ol bl1 cl1 ol1 bl2 cl2 ol2 bl3 cl3 ol3
 go_wp2_with fail
 go_region
 all_goals go_wp2_with fail
 all_goals try simp only [Exit.inBlock,Exit.then]
 all_goals exact bodyPost_ret (v:=.tuple #[.agg #[.pointer (some ⟨p,0,none⟩),.int .i64 1],.bool true]) (by simp [results,results328,go_sem, *]) rfl ⟨rfl,⟨Bk.one (by simp [World.setCell];omega) (by simp [go_sem, *]) (by simp [go_sem, *]),Bk.two (by simp [World.setCell];omega) (by simp [go_sem, *]) (by simp [go_sem, *]) (by simp [go_sem, *]) (by simp [go_sem, *]),Bk.one (by simp [World.setCell];omega) (by simp [go_sem, *]) (by simp [go_sem, *]),n1,n2,n3⟩,(by repeat' (first|refine Kx.set ?_ (by first|exact Or.inr qL|(left;simp;done)|(right;simp;omega)) _|refine Kx.alloc ?_ _|refine Kx.drew ?_|refine Kx.drewN ?_ _|exact K1.out))⟩
theorem allx_2(p n L:Nat)(T V:ByteArray)(hD:Doc T V n L)(bB bC bO:Nat)(w0:World)(hX:Ix w0 p T n)(hbB:w0.heap.size≤bB)(hbC:w0.heap.size≤bC)(hbO:w0.heap.size≤bO)(w:World)(h0:Below w0.heap.size w0 w)(hA:Al p bB bC bO true 1 true w): Calls prog 328 #[.pointer (some ⟨bB,0,none⟩),.pointer (some ⟨bC,0,none⟩),.pointer (some ⟨bO,0,none⟩)] w fun e w'=>e=.returned (.tuple #[.agg #[.pointer none,.int .i64 0],.bool false])∧Kx [bB,bC,bO] w w':=by
 have H0:=hid h0
 clear h0
 have b0:=hA.b.c 0 _ rfl
 have z0:=hA.b.z 0 sM
 have c0:=hA.c.c 0 _ rfl
 have c1:=hA.c.c 1 _ rfl
 have y0:=hA.c.z 0 sM
 have y1:=hA.c.z 1 sM
 have o0:=hA.o.c 0 _ rfl
 have x0:=hA.o.z 0 sM
 have bl:=hA.b.lt
 have cl:=hA.c.lt
 have ol:=hA.o.lt
 have n1:=hA.bc
 have n2:=hA.bo
 have n3:=hA.co
 have n1':=n1.symm
 have n2':=n2.symm
 have n3':=n3.symm
 have bl1:bB<w.heap.size+1:=oM
 have cl1:bC<w.heap.size+1:=oM
 have ol1:bO<w.heap.size+1:=oM
 have bl2:bB<w.heap.size+1+1:=oM
 have cl2:bC<w.heap.size+1+1:=oM
 have ol2:bO<w.heap.size+1+1:=oM
 have bl3:bB<w.heap.size+1+1+1:=oM
 have cl3:bC<w.heap.size+1+1+1:=oM
 have ol3:bO<w.heap.size+1+1+1:=oM
 go_enter func328,ntmps328
 go_wp2_with fail
 refine (next_1 p n L T V hD _ (hX.below tq4)).mono ?_;rintro e w1 ⟨rfl,hb1⟩
 have s1:=hb1.size;try simp at s1
 have B0:=hb1.cl bB 0;simp [go_sem, *] at B0
 have Z0:=hb1.fz bB 0;simp [go_sem, *] at Z0
 have C0:=hb1.cl bC 0;simp [go_sem, *] at C0
 have C1:=hb1.cl bC 1;simp [go_sem, *] at C1
 have Y0:=hb1.fz bC 0;simp [go_sem, *] at Y0
 have Y1:=hb1.fz bC 1;simp [go_sem, *] at Y1
 have O0:=hb1.cl bO 0;simp [go_sem, *] at O0
 have X0:=hb1.fz bO 0;simp [go_sem, *] at X0
 have R0:=hb1.cl w.heap.size 0;simp [go_sem, *] at R0
 have R1:=hb1.cl w.heap.size 1;simp [go_sem, *] at R1
 have Q0:=hb1.fz w.heap.size 0;simp [go_sem, *] at Q0
 have Q1:=hb1.fz w.heap.size 1;simp [go_sem, *] at Q1
 have:bB<w1.heap.size:=oM
 have:bC<w1.heap.size:=oM
 have:bO<w1.heap.size:=oM
 have:w.heap.size<w1.heap.size:=oM
 have:¬bB=w.heap.size:=oM
 have:¬bC=w.heap.size:=oM
 have:¬bO=w.heap.size:=oM
 have:¬w.heap.size=bB:=oM
 have:¬w.heap.size=bC:=oM
 have:¬w.heap.size=bO:=oM
 have K1:Hid (Kx [bB,bC,bO] w w1):=hid (Kx.step (by repeat' (first|refine Kx.set ?_ (by first|exact Or.inr qL|(left;simp;done)|(right;simp;omega)) _|refine Kx.alloc ?_ _|refine Kx.drew ?_|refine Kx.drewN ?_ _|exact Kx.refl _ _)) hb1)
 clear hb1
 clear b0 z0 c0 c1 y0 y1 o0 x0 bl cl ol bl1 cl1 ol1 bl2 cl2 ol2 bl3 cl3 ol3
 go_wp2_with fail
 go_region
 all_goals go_wp2_with fail
 all_goals try simp only [Exit.inBlock,Exit.then]
 all_goals exact bodyPost_ret (v:=.tuple #[.agg #[.pointer none,.int .i64 0],.bool false]) (by simp [results,results328,go_sem, *]) rfl ⟨rfl,(by repeat' (first|refine Kx.set ?_ (by first|exact Or.inr qL|(left;simp;done)|(right;simp;omega)) _|refine Kx.alloc ?_ _|refine Kx.drew ?_|refine Kx.drewN ?_ _|exact K1.out))⟩
end Nn
namespace Nn
open Go.RowKit
attribute [local go_sem] run_store_nilFunc run_store_func
structure Fi (a p bE bW bA bB bC bO:Nat) (be:Bool) (i:Int) (ok:Bool) (W:World):Prop where
 e:Bk bE [.func (.func 328) #[] #[.pointer (some ⟨bB,0,none⟩),.pointer (some ⟨bC,0,none⟩),.pointer (some ⟨bO,0,none⟩)]] W
 w:Bk bW [.pointer (some ⟨a,0,none⟩)] W
 a:Bk bA [.int .i64 0] W
 al:Al p bB bC bO be i ok W
 ne:∀x∈[bE,bW,bA],x≠bB∧x≠bC∧x≠bO
theorem Fi.below{a p bE bW bA bB bC bO:Nat}{be:Bool}{i:Int}{ok:Bool}{W W':World}(h:Fi a p bE bW bA bB bC bO be i ok W)(hb:Below W.heap.size W W'): Fi a p bE bW bA bB bC bO be i ok W':=⟨h.e.below hb,h.w.below hb,h.a.below hb,h.al.below hb,h.ne⟩
def FilP (w:World) (a p:Nat) (e:Ending) (w':World):Prop:=∃bE bW bA bB bC bO,e=.returned (.func (.func 332) #[] #[.pointer (some ⟨bE,0,none⟩),.pointer (some ⟨bW,0,none⟩),.pointer (some ⟨bA,0,none⟩)])∧Fi a p bE bW bA bB bC bO false (-1) true w'∧Below w.heap.size w w'∧(∀x∈[bE,bW,bA,bB,bC,bO],w.heap.size≤x)
theorem filtered_f(a p:Nat)(w:World): Calls prog 289 #[.pointer (some ⟨a,0,none⟩),.agg #[.pointer (some ⟨p,0,none⟩),.int .i64 (-1)],.int .i64 0] w fun e w'=>FilP w a p e w':=by
 have:∀(fn:Fn) (first cap:Array Value) (w:World),(Instr.makeFunc fn first cap).run prog w=.ok (.func fn first cap) w:=fun _ _ _ _=>rfl
 go_enter func289,ntmps289
 go_wp2_with fail
 refine (all_f p _).mono ?_;rintro e w1 ⟨bB,bC,bO,rfl,hA,hb1,h1,h2,h3⟩
 have HA:=hid hA
 have W0:=hb1.cl w.heap.size 0;simp [go_sem] at W0
 have W1:=hb1.fz w.heap.size 0;simp [go_sem] at W1
 have A0:=hb1.cl (w.heap.size+1+1) 0;simp [go_sem] at A0
 have A1:=hb1.fz (w.heap.size+1+1) 0;simp [go_sem] at A1
 have s1:=hb1.size;try simp at s1
 have HB1:=bel_step (w:=w) tq4 hb1
 simp at h1 h2 h3
 have lb:=hA.b.lt;have lc:=hA.c.lt;have lo:=hA.o.lt
 have:w.heap.size<w1.heap.size:=oM
 have:w.heap.size+1+1<w1.heap.size:=oM
 clear hb1 hA
 go_wp2_with fail
 try simp only [Exit.inBlock,Exit.then]
 refine bodyPost_ret (v:=.func (.func 332) #[] #[.pointer (some ⟨w1.heap.size,0,none⟩),.pointer (some ⟨w.heap.size,0,none⟩),.pointer (some ⟨w.heap.size+1+1,0,none⟩)]) (by simp [results,results289,go_sem]) rfl ⟨w1.heap.size,w.heap.size,w.heap.size+1+1,bB,bC,bO,rfl,⟨Bk.one sM (by simp [go_sem]) (by simp [go_sem]),Bk.one (by simp;omega) (by simp [go_sem, *]) (by simp [go_sem, *]),Bk.one (by simp;omega) (by simp [go_sem, *]) (by simp [go_sem, *]),HA.out.below (qR.alloc qL _),?_⟩,tq4,?_⟩
 ·intro x hx;simp only [List.mem_cons,List.not_mem_nil,or_false] at hx;rcases hx with rfl|rfl|rfl <;> omega
 ·intro x hx;simp only [List.mem_cons,List.not_mem_nil,or_false] at hx;rcases hx with rfl|rfl|rfl|rfl|rfl|rfl <;> omega
theorem told_f(a p:Nat)(w:World): Calls prog 225 #[.pointer (some ⟨a,0,none⟩),.agg #[.int .i64 4,.string ⟨#[]⟩,.int .i64 0,.int .i64 0,.int .i64 0,.bool false,.bool false,.int .i64 0],.agg #[.pointer (some ⟨p,0,none⟩),.int .i64 (-1)]] w fun e w'=>FilP w a p e w':=by
 go_enter func225,ntmps225
 go_wp2_with fail
 refine (filtered_f a p _).mono ?_;rintro e w1 ⟨bE,bW,bA,bB,bC,bO,rfl,hA,hb1,h1⟩
 have HA:=hid hA
 have HB1:=bel_step (w:=w) tq4 hb1
 simp at h1
 clear hb1 hA
 go_wp2_with fail
 try simp only [Exit.inBlock,Exit.then]
 refine bodyPost_ret (v:=.func (.func 332) #[] #[.pointer (some ⟨bE,0,none⟩),.pointer (some ⟨bW,0,none⟩),.pointer (some ⟨bA,0,none⟩)]) (by simp [results,results225,go_sem]) rfl ⟨bE,bW,bA,bB,bC,bO,rfl,HA.out,HB1.out,?_⟩
 intro x hx;simp only [List.mem_cons,List.not_mem_nil,or_false] at hx;rcases hx with rfl|rfl|rfl|rfl|rfl|rfl <;> omega
end Nn
namespace Nn
open Go.RowKit
attribute [local go_sem] run_store_nilFunc run_store_func eqn_nil eqn_func
theorem stJ(a m p g c:Nat)(w0:World)(J:Nat→Act→World→Prop)(Q:Exit→Act→World→Prop)(x:Act)(W:World)(hx:Ac a x)(hW:Wj m (.slice (some ⟨g,0,none⟩) 1 c) 9 a W)(hJ:∀ts,Q .ret { tmps:=ts,defers:=[] } W): ∃rest,findLabel (scopeBody f163) 0=some (Code.skip.seq rest)∧rest.wp prog (jumps J Q) x W:=by
 obtain ⟨u,rfl⟩ :=hx.lit
 clear hx
 refine ⟨_,rfl,?_⟩
 have HJ:=hid hJ
 clear hJ
 have aw0:=hW.c0
 have aw1:=hW.c1
 have aw2:=hW.c2
 have aw3:=hW.c3
 have aw4:=hW.c4
 have aw5:=hW.c5
 have aw6:=hW.c6
 have aw7:=hW.c7
 have alt:=hW.lt
 clear hW
 go_wp2_with fail
 rw [jumps_ret]
 exact HJ.out _
theorem run_j(p m a:Nat)(w:World)(hW:Wj m (.slice none 0 0) 0 a w): Calls prog 163 #[.pointer (some ⟨a,0,none⟩),.agg #[.pointer (some ⟨p,0,none⟩),.int .i64 1]] w fun e w'=>MeetJ w a m p e w':=by
 go_enter func163,ntmps163
 have alt:=hW.lt
 have:a<w.heap.size+1:=oM
 have:a<w.heap.size+1+1:=oM
 have aw0:=hW.c0
 have aw1:=hW.c1
 have aw2:=hW.c2
 have aw3:=hW.c3
 have aw4:=hW.c4
 have aw5:=hW.c5
 have aw6:=hW.c6
 have aw7:=hW.c7
 have awz5:=hW.z5
 have awz7:=hW.z7
 go_wp2_with fail
 refine wp_scope_pass (fun n l x w'=>l=0∧Ac a x∧n=0∧∃g c,Hid (MeetJ w a m p (.returned (.tuple #[])) w'∧Wj m (.slice (some ⟨g,0,none⟩) 1 c) 9 a w')) 1 ?_ ?_
 ·rintro q l x w' ⟨rfl,hx,rfl,g,c,hS⟩
  exact stJ a m p g c w _ _ x w' hx hS.out.2 (fun ts=>bodyPost_ret (results_none rfl _ _ _) rfl hS.out.1)
 ·intro hin
  go_wp2_with fail
  apply wp_cut2 (fun g c W'=>Hid (MeetJ w a m p (.returned (.tuple #[])) W'∧Wj m (.slice (some ⟨g,0,none⟩) 1 c) 9 a W'))
  ·go_region_law ((first|(go_simp;go_at_call 224;refine (meet_2 p m a _ (hW.below tq4)).mono ?_;rintro e w1 ⟨rfl,g,c,hc,hw1,hcw,hk,hg⟩;have HP:=hid (And.intro hc (And.intro hw1 (And.intro hcw (And.intro hk hg))));clear hc hw1 hcw hk hg)))
   all_goals
    obtain ⟨hc,hw1,hcw,hk,hg⟩ :=HP.out
    exact ⟨g,c,rfl,hid ⟨⟨rfl,g,c,hc,hw1,hcw,(Kx.of tq4).trans hk,by simp at hg;omega⟩,hw1⟩⟩
  rintro g c W H0
  go_wp2_with fail
  go_step3
  rename_i hK
  exact hK _ _ <| hin 0 0 _ _ _ oM rfl ⟨rfl,⟨rfl,rfl,rfl⟩,rfl,g,c,H0⟩
theorem walked_j(gp cp gs cs gl cl gi ci p m:Nat)(sg n k:Int)(w:World)(hM:Mf gp cp gs cs gl cl gi ci p k m w)(hC:Cdf gp gs gl gi sg n w): Calls prog 87 #[.pointer (some ⟨m,0,none⟩),.int .i64 1,.agg #[.pointer (some ⟨p,0,none⟩),.int .i64 1],.int .i64 0] w fun e w'=>∃g c,e=.returned (.tuple #[.slice (some ⟨g,0,none⟩) 1 c,.int .i64 9])∧1≤c∧Cw p g w'∧Below w.heap.size w w':=by
 go_enter func87,ntmps87
 have mlt:=hM.lt
 have:m<w.heap.size+1:=oM
 have:m<w.heap.size+1+1:=oM
 have:m<w.heap.size+1+1+1:=oM
 have:m<w.heap.size+1+1+1+1:=oM
 have m0:=hM.c0
 have m1:=hM.c1
 have m2:=hM.c2
 have m3:=hM.c3
 have m4:=hM.c4
 have m5:=hM.c5
 have m6:=hM.c6
 have mz6:=hM.z6
 have gplt:=hC.p.lt
 have:gp<w.heap.size+1:=oM
 have:gp<w.heap.size+1+1:=oM
 have:gp<w.heap.size+1+1+1:=oM
 have:gp<w.heap.size+1+1+1+1:=oM
 have dp0:=hC.p.c 0 _ rfl
 have dp1:=hC.p.c 1 _ rfl
 have dp2:=hC.p.c 2 _ rfl
 have dp3:=hC.p.c 3 _ rfl
 have dp4:=hC.p.c 4 _ rfl
 have dp5:=hC.p.c 5 _ rfl
 go_wp2_with fail
 refine (run_j p m (w.heap.size+1+1) _ ⟨by simp,by simp [go_sem],by simp [go_sem],by simp [go_sem],by simp [go_sem],by simp [go_sem],by simp [go_sem],by simp [go_sem],by simp [go_sem],by simp [go_sem],by simp [go_sem]⟩).mono ?_;rintro e w1 ⟨rfl,g,c,hc,hW1,hcf,hkx,hg⟩
 have HB:Hid (Below w.heap.size w w1):=by
  refine hid (hkx.bel (w0:=w) tq4 (fun j hj=>by simp at hj;omega))
 have y5:=hW1.c5;have y7:=hW1.c7;have ylt:=hW1.lt
 clear hkx
 go_wp2_with fail
 go_region
 all_goals go_wp2_with fail
 all_goals try simp only [Exit.inBlock,Exit.then]
 all_goals exact bodyPost_ret (v:=.tuple #[.slice (some ⟨g,0,none⟩) 1 c,.int .i64 9]) (by simp [results,results87,go_sem]) rfl ⟨g,c,rfl,hc,hcf.below qR.drew,HB.out.drew⟩
theorem first_j(gp cp gs cs gl cl gi ci p m:Nat)(sg n k:Int)(w:World)(hM:Mf gp cp gs cs gl cl gi ci p k m w)(hC:Cdf gp gs gl gi sg n w): Calls prog 375 #[.pointer (some ⟨m,0,none⟩),.int .i64 1,.agg #[.pointer (some ⟨p,0,none⟩),.int .i64 1]] w fun e w'=>e=.returned (.tuple #[.agg #[.pointer (some ⟨p,0,none⟩),.int .i64 1],.bool true,.int .i64 0])∧Below w.heap.size w w':=by
 go_enter func375,ntmps375
 go_wp2_with fail
 refine (walked_j gp cp gs cs gl cl gi ci p m sg n k _ (hM.below tq4) (hC.below tq4)).mono ?_;rintro e w1 ⟨g,c,rfl,hc,hcw,hb1⟩
 have s1:=hb1.size;try simp at s1
 have:w.heap.size<w1.heap.size:=oM
 have:w.heap.size+1<w1.heap.size:=oM
 have e0:=hb1.cl (w.heap.size+1) 0;simp [go_sem] at e0
 have e1:=hb1.cl (w.heap.size+1) 1;simp [go_sem] at e1
 have f0:=hb1.fz (w.heap.size+1) 0;simp [go_sem] at f0
 have f1:=hb1.fz (w.heap.size+1) 1;simp [go_sem] at f1
 have HB1:=bel_step (w:=w) tq4 hb1
 clear hb1
 have v0:=hcw.c0;have v1:=hcw.c1;have vl:=hcw.lt
 go_wp2_with fail
 all_goals try simp only [Exit.inBlock,Exit.then]
 all_goals exact bodyPost_ret (v:=.tuple #[.agg #[.pointer (some ⟨p,0,none⟩),.int .i64 1],.bool true,.int .i64 0]) (by simp [results,results375,go_sem,e0,e1]) rfl ⟨rfl,tq4⟩
end Nn
namespace Nn
open Go.RowKit
def CmpQ (w:World) (V:ByteArray) (nn h:Int):Prop:=∀W:World,Below w.heap.size w W→Calls prog 389 #[.string V,.int .i64 nn] W fun e w'=>e=.returned (.int .i64 h)∧Below W.heap.size W w'
theorem CmpQ.below{w w':World}{V:ByteArray}{nn h:Int}(hq:CmpQ w V nn h)(hb:Below w.heap.size w w'): CmpQ w' V nn h:=fun W hW=>hq W (hb.trans (hW.mono hb.size))
def sgB (s:Nat) (h:Int):Bool:=if s=0 then h==0 else if s=1 then h != 0 else if s=2 then decide (h<0) else if s=3 then decide (h≤0) else if s=4 then decide (0<h) else decide (0≤h)
theorem sign_f(s:Nat)(hs:s<6)(h:Int)(w:World): Calls prog 377 #[.int .i64 (s:Nat),.int .i64 h,.bool true] w fun e w'=>e=.returned (.bool (sgB s h))∧Below w.heap.size w w':=by
 have hX:∀(b0 b1 b2 b3 b4 b5:Bool) (w:World),(Instr.index 466 (.agg #[.bool b0,.bool b1,.bool b2,.bool b3,.bool b4,.bool b5]) (.int .i64 0)).run prog w=.ok (.bool b0) w∧(Instr.index 466 (.agg #[.bool b0,.bool b1,.bool b2,.bool b3,.bool b4,.bool b5]) (.int .i64 1)).run prog w=.ok (.bool b1) w∧(Instr.index 466 (.agg #[.bool b0,.bool b1,.bool b2,.bool b3,.bool b4,.bool b5]) (.int .i64 2)).run prog w=.ok (.bool b2) w∧(Instr.index 466 (.agg #[.bool b0,.bool b1,.bool b2,.bool b3,.bool b4,.bool b5]) (.int .i64 3)).run prog w=.ok (.bool b3) w∧(Instr.index 466 (.agg #[.bool b0,.bool b1,.bool b2,.bool b3,.bool b4,.bool b5]) (.int .i64 4)).run prog w=.ok (.bool b4) w∧(Instr.index 466 (.agg #[.bool b0,.bool b1,.bool b2,.bool b3,.bool b4,.bool b5]) (.int .i64 5)).run prog w=.ok (.bool b5) w:=fun _ _ _ _ _ _ _=>by
  refine ⟨?_,?_,?_,?_,?_,?_⟩ <;> kernel_rfl
 have hX0:=fun b0 b1 b2 b3 b4 b5 w=>(hX b0 b1 b2 b3 b4 b5 w).1
 have hX1:=fun b0 b1 b2 b3 b4 b5 w=>(hX b0 b1 b2 b3 b4 b5 w).2.1
 have hX2:=fun b0 b1 b2 b3 b4 b5 w=>(hX b0 b1 b2 b3 b4 b5 w).2.2.1
 have hX3:=fun b0 b1 b2 b3 b4 b5 w=>(hX b0 b1 b2 b3 b4 b5 w).2.2.2.1
 have hX4:=fun b0 b1 b2 b3 b4 b5 w=>(hX b0 b1 b2 b3 b4 b5 w).2.2.2.2.1
 have hX5:=fun b0 b1 b2 b3 b4 b5 w=>(hX b0 b1 b2 b3 b4 b5 w).2.2.2.2.2
 clear hX
 obtain rfl|rfl|rfl|rfl|rfl|rfl:s=0∨s=1∨s=2∨s=3∨s=4∨s=5:=oM
 all_goals
  go_enter func377,ntmps377
  go_wp2_with fail
  go_ret
  exact ⟨rfl,tq4⟩
structure Hl (w0:World) (C X p:Nat) (nn:Int) (W:World):Prop where
 bel:Below w0.heap.size w0 W
 lc:C<W.heap.size
 lx:X<W.heap.size
 c0:W.cell? ⟨C,0,none⟩=some (.pointer (some ⟨p,0,none⟩))
 c1:W.cell? ⟨C,1,none⟩=some (.int .i64 1)
 x3:W.cell? ⟨X,3,none⟩=some (.int .i64 2)
 x4:W.cell? ⟨X,4,none⟩=some (.int .i64 nn)
theorem Hl.next{w0 W W':World}{C X p:Nat}{nn:Int}(h:Hl w0 C X p nn W)(hb:Below W.heap.size W W'): Hl w0 C X p nn W':=⟨h.bel.trans (hb.mono h.bel.size),Nat.lt_of_lt_of_le h.lc hb.size,Nat.lt_of_lt_of_le h.lx hb.size,(hb.cell (p:=⟨C,0,none⟩) h.lc).trans h.c0,(hb.cell (p:=⟨C,1,none⟩) h.lc).trans h.c1,(hb.cell (p:=⟨X,3,none⟩) h.lx).trans h.x3,(hb.cell (p:=⟨X,4,none⟩) h.lx).trans h.x4⟩
theorem Hl.drew{w0 W:World}{C X p:Nat}{nn:Int}(h:Hl w0 C X p nn W): Hl w0 C X p nn W.drew:=h.next qR.drew
theorem hl_held{w0 W:World}{C X p:Nat}{nn:Int}(h:Hl w0 C X p nn W): W.cell? ⟨C,0,none⟩=some (.pointer (some ⟨p,0,none⟩))∧W.cell? ⟨C,1,none⟩=some (.int .i64 1)∧W.cell? ⟨X,3,none⟩=some (.int .i64 2)∧W.cell? ⟨X,4,none⟩=some (.int .i64 nn)∧Hid (Hl w0 C X p nn W):=⟨h.c0,h.c1,h.x3,h.x4,hid h⟩
theorem held_f(p n L:Nat)(T V:ByteArray)(hD:Doc T V n L)(hV:0<V.size)(c:Int)(hc:((V[0]'hV).toNat:Int)=c)(hk:c=45∨48≤c∧c≤57)(sg:Nat)(nn hh:Int)(w:World)(h:Ix w p T n)(hN:CmpQ w V nn hh): Calls prog 376 #[.agg #[.pointer (some ⟨p,0,none⟩),.int .i64 1],.agg #[.int .i64 1,.int .i64 1,.int .i64 (sg:Nat),.int .i64 2,.int .i64 nn,.string ⟨#[]⟩,.int .i64 0]] w fun e w'=>e=.returned (.tuple #[.int .i64 hh,.bool true])∧Below w.heap.size w w':=by
 go_enter func376,ntmps376
 go_wp2_with fail
 have H0:Hid (Hl w w.heap.size (w.heap.size+1) p nn ((w.alloc (Obj.cells #[Value.pointer (some ⟨p,0,none⟩),Value.int IntKind.i64 1] 128)).alloc (Obj.cells #[Value.int IntKind.i64 1,Value.int IntKind.i64 1,Value.int IntKind.i64 sg,Value.int IntKind.i64 2,Value.int IntKind.i64 nn,Value.string ⟨#[]⟩,Value.int IntKind.i64 0] 290))):=hid ⟨tq4,by simp <;> omega,by simp,by simp [go_sem],by simp [go_sem],by simp [go_sem],by simp [go_sem]⟩
 generalize (w.alloc _).alloc _=W0 at H0 ⊢
 generalize w.heap.size=C at H0 ⊢
 generalize C+1=X at H0 ⊢
 have c0:=H0.out.c0;have c1:=H0.out.c1;have x3:=H0.out.x3;have x4:=H0.out.x4;have lc:=H0.out.lc;have lx:=H0.out.lx
 have hs1:∀(W:World) (hW:Hl w C X p nn W),Calls prog 50 #[.agg #[.pointer (some ⟨p,0,none⟩),.int .i64 1]] W fun e w'=>e=.returned (.int .i64 2)∧Hl w C X p nn w':=fun W hW=>(Go.Proofs.YtjcioljdlfdnbaaGreatDoor.kind_n p n L T V hD hV c hc hk W (h.below hW.bel)).mono fun e w' ⟨a,b⟩ =>⟨a,hW.next b⟩
 have hs2:∀(W:World) (hW:Hl w C X p nn W),Calls prog 96 #[.agg #[.pointer (some ⟨p,0,none⟩),.int .i64 1]] W fun e w'=>e=.returned (.string V)∧Hl w C X p nn w':=fun W hW=>(raw_1 p n L T V hD W (h.below hW.bel)).mono fun e w' ⟨a,b⟩ =>⟨a,hW.next b⟩
 have hs3:∀(W:World) (hW:Hl w C X p nn W),Calls prog 389 #[.string V,.int .i64 nn] W fun e w'=>e=.returned (.int .i64 hh)∧Hl w C X p nn w':=fun W hW=>(hN W hW.bel).mono fun e w' ⟨a,b⟩ =>⟨a,hW.next b⟩
 go_region_held3 (fun w'=>w'.cell? ⟨C,0,none⟩=some (.pointer (some ⟨p,0,none⟩))∧w'.cell? ⟨C,1,none⟩=some (.int .i64 1)∧w'.cell? ⟨X,3,none⟩=some (.int .i64 2)∧w'.cell? ⟨X,4,none⟩=some (.int .i64 nn)∧Hid (Hl w C X p nn w')) (first|exact hl_held (by repeat' (first|exact Hid.out aM|refine Hl.drew ?_))) (first|(go_at_call 50;refine (hs1 _ (by repeat' (first|exact Hid.out aM|refine Hl.drew ?_))).mono ?_;rintro e w1 ⟨rfl,hb⟩;have HXw1:=hid hb;clear hb))
 have c0':=HXw1.out.c0;have c1':=HXw1.out.c1;have x3':=HXw1.out.x3;have x4':=HXw1.out.x4;have lc':=HXw1.out.lc;have lx':=HXw1.out.lx
 clear c0 c1 x3 x4 lc lx hs1 H0
 go_wp2_with fail
 go_region_held3 (fun w'=>w'.cell? ⟨C,0,none⟩=some (.pointer (some ⟨p,0,none⟩))∧w'.cell? ⟨C,1,none⟩=some (.int .i64 1)∧w'.cell? ⟨X,3,none⟩=some (.int .i64 2)∧w'.cell? ⟨X,4,none⟩=some (.int .i64 nn)∧Hid (Hl w C X p nn w')) (first|exact hl_held (by repeat' (first|exact Hid.out aM|refine Hl.drew ?_))) (first|(go_at_call 96;refine (hs2 _ (by repeat' (first|exact Hid.out aM|refine Hl.drew ?_))).mono ?_;rintro e w2 ⟨rfl,hb⟩;have HXw2:=hid hb;clear hb)|(go_at_call 389;refine (hs3 _ (by repeat' (first|exact Hid.out aM|refine Hl.drew ?_))).mono ?_;rintro e w3 ⟨rfl,hb⟩;have HXw3:=hid hb;clear hb))
 all_goals go_wp2_with fail
 all_goals try simp only [Exit.inBlock,Exit.then]
 all_goals exact bodyPost_ret (v:=.tuple #[.int .i64 hh,.bool true]) (by simp [results,results376,go_sem]) rfl ⟨rfl,by first|exact HXw3.out.bel|exact HXw3.out.bel.drew⟩
theorem kinfo4: (prog.info? 4).map (fun i=>(i.zero,i.size,i.bytes))=some (some (.bool false),1,1):=by kernel_rfl
theorem one_f(p n L:Nat)(T V:ByteArray)(hD:Doc T V n L)(hV:0<V.size)(c:Int)(hc:((V[0]'hV).toNat:Int)=c)(hk:c=45∨48≤c∧c≤57)(gp cp gs cs gl cl gi ci m:Nat)(sg:Nat)(hsg:sg<6)(nn hh k:Int)(w:World)(h:Ix w p T n)(hN:CmpQ w V nn hh)(hM:Mf gp cp gs cs gl cl gi ci p k m w)(hC:Cdf gp gs gl gi (sg:Nat) nn w): Calls prog 358 #[.pointer (some ⟨m,0,none⟩),.agg #[.int .i64 1,.int .i64 1,.int .i64 (sg:Nat),.int .i64 2,.int .i64 nn,.string ⟨#[]⟩,.int .i64 0],.agg #[.pointer (some ⟨p,0,none⟩),.int .i64 1]] w fun e w'=>e=.returned (.tuple #[.bool (sgB sg hh),.int .i64 0])∧Below w.heap.size w w':=by
 go_enter func358,ntmps358
 go_wp2_with fail
 refine (first_j gp cp gs cs gl cl gi ci p m sg nn k _ (hM.below tq4) (hC.below tq4)).mono ?_;rintro e w1 ⟨rfl,hb1⟩
 have s1:=hb1.size;try simp at s1
 have:w.heap.size<w1.heap.size:=oM
 have e1_0_0:=hb1.cl w.heap.size 0;simp [go_sem, *] at e1_0_0
 have e1_0_1:=hb1.cl w.heap.size 1;simp [go_sem, *] at e1_0_1
 have e1_0_2:=hb1.cl w.heap.size 2;simp [go_sem, *] at e1_0_2
 have e1_0_3:=hb1.cl w.heap.size 3;simp [go_sem, *] at e1_0_3
 have e1_0_4:=hb1.cl w.heap.size 4;simp [go_sem, *] at e1_0_4
 have e1_0_5:=hb1.cl w.heap.size 5;simp [go_sem, *] at e1_0_5
 have e1_0_6:=hb1.cl w.heap.size 6;simp [go_sem, *] at e1_0_6
 have HB1:=bel_step (w:=w) tq4 hb1
 clear hb1
 go_wp2_with fail
 refine (held_f p n L T V hD hV c hc hk sg nn hh _ (h.below tq4) (hN.below tq4)).mono ?_;rintro e w2 ⟨rfl,hb2⟩
 have s2:=hb2.size;try simp at s2
 have:w.heap.size<w2.heap.size:=oM
 have e2_0_2:=hb2.cl w.heap.size 2;simp [go_sem, *] at e2_0_2
 have HB2:=bel_step (w:=w) tq4 hb2
 clear hb2
 go_wp2_with fail
 refine (sign_f sg hsg hh _).mono ?_;rintro e w3 ⟨rfl,hb3⟩
 have HB3:=bel_step (w:=w) tq4 hb3
 clear hb3
 go_wp2_with fail
 try simp only [Exit.inBlock,Exit.then]
 refine bodyPost_ret (v:=.tuple #[.bool (sgB sg hh),.int .i64 0]) (by simp [results,results358,go_sem]) rfl ⟨rfl,tq4⟩
theorem truth_f(p n L:Nat)(T V:ByteArray)(hD:Doc T V n L)(hV:0<V.size)(c:Int)(hc:((V[0]'hV).toNat:Int)=c)(hk:c=45∨48≤c∧c≤57)(gp cp gs cs gl cl gi ci m:Nat)(sg:Nat)(hsg:sg<6)(nn hh k:Int)(w:World)(h:Ix w p T n)(hN:CmpQ w V nn hh)(hM:Mf gp cp gs cs gl cl gi ci p k m w)(hC:Cdf gp gs gl gi (sg:Nat) nn w): Calls prog 333 #[.pointer (some ⟨m,0,none⟩),.int .i64 0,.agg #[.pointer (some ⟨p,0,none⟩),.int .i64 1]] w fun e w'=>e=.returned (.tuple #[.bool (sgB sg hh),.int .i64 0])∧Below w.heap.size w w':=by
 obtain ⟨i0,hi0,hz0,hs0,hb0⟩ :=info_parts kinfo4
 go_enter func333,ntmps333
 have mlt:=hM.lt
 have mlt1:m<w.heap.size+1:=oM
 have mlt2:m<w.heap.size+1+1:=oM
 have mlt3:m<w.heap.size+1+1+1:=oM
 have m0:=hM.c0
 have m1:=hM.c1
 have m2:=hM.c2
 have m3:=hM.c3
 have m4:=hM.c4
 have m5:=hM.c5
 have m6:=hM.c6
 have mz6:=hM.z6
 have gilt:=hC.i.lt
 have gilt1:gi<w.heap.size+1:=oM
 have gilt2:gi<w.heap.size+1+1:=oM
 have gilt3:gi<w.heap.size+1+1+1:=oM
 have di0:=hC.i.c 0 _ rfl
 have di1:=hC.i.c 1 _ rfl
 have di2:=hC.i.c 2 _ rfl
 have di3:=hC.i.c 3 _ rfl
 have di4:=hC.i.c 4 _ rfl
 have di5:=hC.i.c 5 _ rfl
 have di6:=hC.i.c 6 _ rfl
 have di7:=hC.i.c 7 _ rfl
 have di8:=hC.i.c 8 _ rfl
 have di9:=hC.i.c 9 _ rfl
 have di10:=hC.i.c 10 _ rfl
 have di11:=hC.i.c 11 _ rfl
 have di12:=hC.i.c 12 _ rfl
 have di13:=hC.i.c 13 _ rfl
 go_wp2_with (first|(refine wp_scope_lab 8 ?_;intro K hK)|(refine Lab.step _ rfl ?_;intro K hK)|(refine hK _ _ _ ?_;refine Lab.step _ rfl ?_;intro K hK)|simp only [jumps_goto,jumps_ret,jumps_normal]|simp only [Exit.then,Exit.inBlock,jumps_goto,jumps_ret,jumps_normal]|go_step3)
 refine (one_f p n L T V hD hV c hc hk gp cp gs cs gl cl gi ci m sg hsg nn hh k _ (h.below tq4) (hN.below tq4) (hM.below tq4) (hC.below tq4)).mono ?_;rintro e w1 ⟨rfl,hb1⟩
 have s1:=hb1.size;try simp at s1
 have HB1:=bel_step (w:=w) tq4 hb1
 have x0:=hb1.cl (w.heap.size+1) 0;simp [go_sem] at x0
 have z0:=hb1.fz (w.heap.size+1) 0;simp [go_sem] at z0
 have x1:=hb1.cl (w.heap.size+1) 1;simp [go_sem] at x1
 have z1:=hb1.fz (w.heap.size+1) 1;simp [go_sem] at z1
 have x2:=hb1.cl (w.heap.size+1) 2;simp [go_sem] at x2
 have z2:=hb1.fz (w.heap.size+1) 2;simp [go_sem] at z2
 have x3:=hb1.cl (w.heap.size+1) 3;simp [go_sem] at x3
 have z3:=hb1.fz (w.heap.size+1) 3;simp [go_sem] at z3
 have x4:=hb1.cl (w.heap.size+1) 4;simp [go_sem] at x4
 have z4:=hb1.fz (w.heap.size+1) 4;simp [go_sem] at z4
 have x5:=hb1.cl (w.heap.size+1) 5;simp [go_sem] at x5
 have z5:=hb1.fz (w.heap.size+1) 5;simp [go_sem] at z5
 have x6:=hb1.cl (w.heap.size+1) 6;simp [go_sem] at x6
 have z6:=hb1.fz (w.heap.size+1) 6;simp [go_sem] at z6
 clear hb1
 have M1:=hid (hM.below HB1.out)
 have C1:=hid (hC.below HB1.out)
 clear mlt1 mlt2 mlt3 gilt gilt1 gilt2 gilt3 m0 m1 m2 m3 m4 m5 m6 mz6 di0 di1 di2 di3 di4 di5 di6 di7 di8 di9 di10 di11 di12 di13
 have l1:w.heap.size+1<w1.heap.size:=oM
 have s1w:w.heap.size≤w1.heap.size:=oM
 go_wp2_with (first|(at_builtin;(refine wpList_push rfl _ _ 26 rfl 4 i0 _ 1 1 underlying26 hi0 hz0 hs0 hb0 rfl oM (Acc.nil qR 4 1) rfl rfl sM rfl rfl oM oM ?_;intro gh ch w3 hA;have hr:=hA.row;have M3:=hid (M1.out.below hA.bel);have C3:=hid (C1.out.below hA.bel);have HB3:=hid (HB1.out.trans (hA.bel.mono s1w));have g0:=hr.2.2 0 _ rfl;have gl:=hr.2.1;have x30:=fun (j:Nat)=>hA.bel.cell (p:=⟨w.heap.size+1,j,none⟩) l1;have z30:=fun (j:Nat)=>hA.bel.frozen (p:=⟨w.heap.size+1,j,none⟩) l1;have:w.heap.size+1<w3.heap.size:=Nat.lt_of_lt_of_le l1 hA.bel.size;have m0:=M3.out.c0;have m3:=M3.out.c3;have mlt:=M3.out.lt;have gilt:=C3.out.i.lt;have i7:=C3.out.i.c 7 _ rfl;have i8:=C3.out.i.c 8 _ rfl;have i9:=C3.out.i.c 9 _ rfl;have i10:=C3.out.i.c 10 _ rfl;have i11:=C3.out.i.c 11 _ rfl;have i12:=C3.out.i.c 12 _ rfl;have i13:=C3.out.i.c 13 _ rfl;have mlt1:m<w3.heap.size+1:=oM;have gilt1:gi<w3.heap.size+1:=oM;have:gh<w3.heap.size+1:=oM;have xx0:=(x30 0).trans x0;have xx1:=(x30 1).trans x1;have xx2:=(x30 2).trans x2;have xx3:=(x30 3).trans x3;have xx4:=(x30 4).trans x4;have xx5:=(x30 5).trans x5;have xx6:=(x30 6).trans x6;have zz0:=(z30 0).trans z0;have zz1:=(z30 1).trans z1;have zz2:=(z30 2).trans z2;have zz3:=(z30 3).trans z3;have zz4:=(z30 4).trans z4;have zz5:=(z30 5).trans z5;have zz6:=(z30 6).trans z6;clear x30 z30 hr hA x0 x1 x2 x3 x4 x5 x6 z0 z1 z2 z3 z4 z5 z6 hi0 hz0 hs0 hb0))|(refine wp_scope_lab 8 ?_;intro K hK)|(refine Lab.step _ rfl ?_;intro K hK)|(refine hK _ _ _ ?_;refine Lab.step _ rfl ?_;intro K hK)|simp only [jumps_goto,jumps_ret,jumps_normal]|simp only [Exit.then,Exit.inBlock,jumps_goto,jumps_ret,jumps_normal]|go_step3)
 try simp only [Exit.inBlock,Exit.then]
 refine bodyPost_ret (v:=.tuple #[.bool (sgB sg hh),.int .i64 0]) (by simp [results,results333,go_sem]) rfl ⟨rfl,tq4⟩
end Nn
end Go.Proofs.YtjcioljdlfdnbaaGreatDoor
