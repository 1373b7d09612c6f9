/- Part 29: lemmas for TopNumber; no conditions. -/
import Derived.Test.YtjcioljdlfdnbaaGreatDoorH21
set_option linter.unusedVariables false
set_option linter.unusedSimpArgs false
set_option maxRecDepth 100000
set_option maxHeartbeats 2000000
open Go.Proofs.Tryz
namespace Go.Proofs.YtjcioljdlfdnbaaGreatDoor
section
open Go.RowKit
attribute [local go_sem] run_store_nilFunc run_store_func eqn_nil eqn_func
set_option maxHeartbeats 4000000 in
theorem rg8a{c:Code}(hc:regionOf (scopeBody f163) 8=some c)(a g p bx gc:Nat)(x:Act)(hx:Fx [(0,.pointer (some ⟨a,0,none⟩)),(4,.pointer (some ⟨g,0,none⟩))] x)(W:World)(fr6:W.cell? ⟨g,6,none⟩=some (.func (.func 324) #[] #[.pointer (some ⟨bx,0,none⟩)]))(glt:g<W.heap.size)(hbx:bx<W.heap.size)(bc:W.cell? ⟨bx,0,none⟩=some (.slice (some ⟨gc,0,none⟩) 1 1))(bz:W.frozen? ⟨bx,0,none⟩=false)(hcw:Cw p gc W)(K:Act→World→Prop)(Q:Exit→Act→World→Prop)(hk:∀x' w3,Fx [(0,.pointer (some ⟨a,0,none⟩)),(4,.pointer (some ⟨g,0,none⟩)),(6,.pointer (some ⟨w3.heap.size,0,none⟩)),(7,.bool true)] x'→Below W.heap.size (W.setCell ⟨bx,0,none⟩ (.slice (some ⟨gc,0,none⟩) 0 0)) w3→K x' (w3.alloc (.cells #[.pointer (some ⟨p,0,none⟩),.int .i64 1] 128))): c.wp prog (Exit.then K Q) x W:=by
 injection (show some c=some _ from hc.symm.trans rfl) with hc
 subst hc
 have kv0:=hx.at 0 (.pointer (some ⟨a,0,none⟩)) sM
 have kv4:=hx.at 4 (.pointer (some ⟨g,0,none⟩)) sM
 have e:=hx.lit177
 rw [e];simp only [kv0,kv4]
 clear hx kv0 kv4
 clear e
 have gen:=qG x
 obtain ⟨u,hu⟩ :=gen
 simp only [hu]
 clear hu x
 have HK:=hid hk
 clear hk
 go_wp2_with fail
 refine (lst_1 p bx gc _ hbx bc bz hcw).mono ?_;rintro e w3 ⟨rfl,hb3⟩
 have HB3:=hid hb3
 clear hb3
 go_wp2_with fail
 exact HK.out _ w3 (Fx.cons (Fx.cons (Fx.cons (Fx.cons (Fx.mk0 _ rfl) 7 _ rfl) 6 _ rfl) 4 _ rfl) 0 _ rfl) HB3.out
end
section
open Go.RowKit
attribute [local go_sem] run_store_nilFunc run_store_func eqn_nil eqn_func
set_option maxHeartbeats 4000000 in
theorem rg13{c:Code}(hc:regionOf (scopeBody f163) 13=some c)(w0:World)(a m p gp cp gs cs gl cl g c1 e bx gc:Nat)(mo:Int)(hmo:1≤mo)(x:Act)(hx:Fx [(0,.pointer (some ⟨a,0,none⟩)),(4,.pointer (some ⟨g,0,none⟩)),(6,.pointer (some ⟨e,0,none⟩))] x)(W:World)(H:RS w0 a m p gp cp gs cs gl cl g mo (.slice (some ⟨g,0,none⟩) 1 c1) (.slice none 0 0) 0 (.func (.func 324) #[] #[.pointer (some ⟨bx,0,none⟩)]) 0 W)(elt:e<W.heap.size)(ec0:W.cell? ⟨e,0,none⟩=some (.pointer (some ⟨p,0,none⟩)))(ec1:W.cell? ⟨e,1,none⟩=some (.int .i64 1))(em:e≠m)(ea:e≠a)(hbx:bx<W.heap.size)(bc:W.cell? ⟨bx,0,none⟩=some (.slice (some ⟨gc,0,none⟩) 0 0))(qm:bx≠m)(qa:bx≠a)(K:Act→World→Prop)(Q:Exit→Act→World→Prop)(hk:∀x' W' gf cf,Fx [(0,.pointer (some ⟨a,0,none⟩)),(4,.pointer (some ⟨g,0,none⟩))] x'→RS w0 a m p gp cp gs cs gl cl g mo (.slice (some ⟨g,0,none⟩) 1 c1) (.slice (some ⟨gf,0,none⟩) 1 cf) 0 (.func (.func 324) #[] #[.pointer (some ⟨bx,0,none⟩)]) 1 W'→Bxx bx gc W'→Cw p gf W'→w0.heap.size≤gf→gf≠a→gf≠m→gf≠g→K x' W'): c.wp prog (Exit.then K Q) x W:=by
 injection (show some c=some _ from hc.symm.trans rfl) with hc
 subst hc
 have kv0:=hx.at 0 (.pointer (some ⟨a,0,none⟩)) sM
 have kv4:=hx.at 4 (.pointer (some ⟨g,0,none⟩)) sM
 have kv6:=hx.at 6 (.pointer (some ⟨e,0,none⟩)) sM
 have e:=hx.lit177
 rw [e];simp only [kv0,kv4,kv6]
 clear hx kv0 kv4 kv6
 clear e
 have gen:=qG x
 obtain ⟨u,hu⟩ :=gen
 simp only [hu]
 clear hu x
 have HK:=hid hk
 clear hk
 have ham:=H.am
 have w0le:=H.hb.size
 have alt0:=H.hW.lt
 have:a<W.heap.size+1:=oM
 have:a<W.heap.size+1+1:=oM
 have mlt0:=H.hM.lt
 have:m<W.heap.size+1:=oM
 have:m<W.heap.size+1+1:=oM
 have gllt0:=H.hC.l.lt
 have:gl<W.heap.size+1:=oM
 have:gl<W.heap.size+1+1:=oM
 have glt0:=H.hF.lt
 have:g<W.heap.size+1:=oM
 have:g<W.heap.size+1+1:=oM
 have:e<W.heap.size+1:=oM
 have:e<W.heap.size+1+1:=oM
 have:Hid (∃fd nx k,RS w0 a m p gp cp gs cs gl cl g mo (.slice (some ⟨g,0,none⟩) 1 c1) fd 0 nx k (W)∧e<(W).heap.size∧(W).cell? ⟨e,0,none⟩=some (.pointer (some ⟨p,0,none⟩))∧(W).cell? ⟨e,1,none⟩=some (.int .i64 1)):=hid ⟨_,_,_,H,elt,ec0,ec1⟩
 have QQ:Hid ((bx≠m∧bx≠a)∧(e≠m∧e≠a)∧a≠m):=hid ⟨⟨qm,qa⟩,⟨em,ea⟩,ham⟩
 clear qm qa em ea ham
 go_region_held3 (fun w'=>w'.cell? ⟨g,0,none⟩=some (.int .i64 0)∧w'.cell? ⟨g,1,none⟩=some (.int .i64 0)∧w'.cell? ⟨e,0,none⟩=some (.pointer (some ⟨p,0,none⟩))∧w'.cell? ⟨e,1,none⟩=some (.int .i64 1)∧Hid (∃fd nx k,RS w0 a m p gp cp gs cs gl cl g mo (.slice (some ⟨g,0,none⟩) 1 c1) fd 0 nx k (w')∧e<(w').heap.size∧(w').cell? ⟨e,0,none⟩=some (.pointer (some ⟨p,0,none⟩))∧(w').cell? ⟨e,1,none⟩=some (.int .i64 1))) (first|exact child_held (by repeat' (first|assumption|refine ry_drew ?_|refine ry_alloc ?_ _))) (first|(go_at_call 226;refine (child_0 gp cp gs cs gl cl p m a _ mo hmo QQ.out.2.2 _ (H.hW.below tq4) (H.hM.below tq4) (H.hC.below tq4)).mono ?_;rintro en w9 ⟨rfl,gf,cf,w4,rfl,hb,hgf,hcf⟩;have K4:=keep_bx (a:=a) (y:=(.slice (some ⟨gf,0,none⟩) 1 cf)) bc hbx tq4 hb QQ.out.1.1 QQ.out.1.2;have H4:=hid ((H.belowK tq4 hb).setF (.slice (some ⟨gf,0,none⟩) 1 cf));have D4:=keep_bx (a:=a) (y:=(.slice (some ⟨gf,0,none⟩) 1 cf)) ec0 elt tq4 hb QQ.out.2.1.1 QQ.out.2.1.2;have D5:=keep_bx (a:=a) (y:=(.slice (some ⟨gf,0,none⟩) 1 cf)) ec1 elt tq4 hb QQ.out.2.1.1 QQ.out.2.1.2;have:Hid (∃fd nx k,RS w0 a m p gp cp gs cs gl cl g mo (.slice (some ⟨g,0,none⟩) 1 c1) fd 0 nx k (w4.setCell ⟨a,5,none⟩ (.slice (some ⟨gf,0,none⟩) 1 cf))∧e<(w4.setCell ⟨a,5,none⟩ (.slice (some ⟨gf,0,none⟩) 1 cf)).heap.size∧(w4.setCell ⟨a,5,none⟩ (.slice (some ⟨gf,0,none⟩) 1 cf)).cell? ⟨e,0,none⟩=some (.pointer (some ⟨p,0,none⟩))∧(w4.setCell ⟨a,5,none⟩ (.slice (some ⟨gf,0,none⟩) 1 cf)).cell? ⟨e,1,none⟩=some (.int .i64 1)):=hid ⟨_,_,_,H4.out,by rw [setCell_size];exact D4.2,D4.1,D5.1⟩;clear hb D4 D5))
 simp at hgf
 exact HK.out _ _ gf cf (Fx.cons (Fx.cons (Fx.mk0 _ rfl) 4 _ rfl) 0 _ rfl) H4.out ⟨by rw [setCell_size];exact K4.2,K4.1⟩ (hcf.set (a:=⟨a,5,none⟩) (show a≠gf by omega) (.slice (some ⟨gf,0,none⟩) 1 cf)) oM oM oM oM
end
section
open Go.RowKit
set_option maxHeartbeats 4000000 in
theorem stA2(w0:World)(a m gp cp gs cs gl cl:Nat)(mo:Int)(hmo:1≤mo)(p n L:Nat)(T V:ByteArray)(hD:Doc T V n L)(hX:Ix w0 p T n)(J:Nat→Act→World→Prop)(Q:Exit→Act→World→Prop)(x:Act)(W:World)(hx:Ac a x)(hS:StA w0 a m p gp cp gs cs gl cl mo W)(hJ:∀a' W',Ac a a'→StB w0 a m p gp cp gs cs gl cl mo W'→J 0 a' W'): ∃rest,findLabel (scopeBody f163) 0=some (Code.skip.seq rest)∧rest.wp prog (jumps J Q) x W:=by
 obtain ⟨g,c,H⟩ :=hS
 have hx1:=hx.fx
 refine ⟨_,rfl,?_⟩
 repeat refine wp_seq ?_
 refine rg2 rfl a g c x hx1 W H.hW.c7 H.hW.c4 _ _ ?_
 intro x2 hx2
 refine wp_cond_false (hx2.ev 30 (.bool false) sM) ?_
 refine wp_skip ?_
 show Code.wp _ _ _ _ _
 repeat refine wp_seq ?_
 refine rg3 rfl a g c x2 (hx2.sub sM) W H.hW.c4 _ _ ?_
 intro x3 n3 hx3
 have H3:RS w0 a m p gp cp gs cs gl cl g mo (.slice (some ⟨g,0,none⟩) 1 c) (.slice none 0 0) 0 .nilFunc 0 (W.drewN n3):=H.below (below_drewN' qR _)
 generalize W.drewN n3=W3 at H3 ⊢
 clear H hx2 hx hx1
 show Code.wp _ _ _ _ _
 repeat refine wp_seq ?_
 refine rg4 rfl a g m gs cs x3 hx3 W3 H3.hW.c0 H3.hM.c1 H3.hC.s.c0 H3.hC.s.c1 H3.hC.s.c2 H3.hF.c0 H3.hW.lt H3.hM.lt H3.hC.s.lt H3.hF.lt _ _ ?_
 intro x4 W4 hx4 b4 l4 d0 d2
 have H4:RS w0 a m p gp cp gs cs gl cl g mo (.slice (some ⟨g,0,none⟩) 1 c) (.slice none 0 0) 0 .nilFunc 0 W4:=H3.below b4
 generalize W3.heap.size=D at hx4 l4 d0 d2
 clear H3 hx3 b4
 show Code.wp _ _ _ _ _
 repeat refine wp_seq ?_
 refine rg5t rfl a g D x4 hx4 W4 H4.hF.c1 d2 _ _ ?_
 intro x5 n5 hx5
 have H5:RS w0 a m p gp cp gs cs gl cl g mo (.slice (some ⟨g,0,none⟩) 1 c) (.slice none 0 0) 0 .nilFunc 0 (W4.drewN n5):=H4.below (below_drewN' qR _)
 generalize W4.drewN n5=W5 at H5 ⊢
 refine wp_cond_true (hx5.ev 62 (.bool true) sM) ?_
 clear H4 hx4 d0 d2 l4
 repeat refine wp_seq ?_
 refine rg6n rfl a g D x5 (hx5.sub sM) W5 H5.hF.c6 _ _ ?_
 intro x6 hx6
 refine wp_cond_true (hx6.ev 67 (.bool true) sM) ?_
 show Code.wp _ _ _ _ _
 repeat (first|refine wp_seq ?_|refine wp_block ?_)
 refine wp_then_self ?_
 refine rg7 rfl w0 a m p gp cp gs cs gl cl g c mo n L T V hD hX x6 (hx6.sub sM) W5 H5 _ _ ?_
 intro x7 W7 bx gc hx7 H7 q0 qa qm qg qgp qgs qgl hbx bc bz hcw
 clear H5 hx5 hx6
 show Code.wp _ _ _ _ _
 repeat (first|refine wp_seq ?_|refine wp_block ?_)
 refine rg8a rfl a g p bx gc x7 hx7 W7 H7.hF.c6 H7.hF.lt hbx bc bz hcw _ _ ?_
 intro x8 w3 hx8 hb3
 have H8:=(H7.other (q:=⟨bx,0,none⟩) q0 qa qm qg qgp qgs qgl (.slice (some ⟨gc,0,none⟩) 0 0)).below (by rw [setCell_size];exact hb3)
 have bc3:=(hb3.cell (p:=⟨bx,0,none⟩) hbx).trans (World.cell?_setCell_same' _ _ _ (by rw [bc];rfl))
 have s3:=hb3.size
 rw [setCell_size] at s3
 have hbx3:=Nat.lt_of_lt_of_le hbx s3
 have al:Below w3.heap.size w3 (w3.alloc (.cells #[.pointer (some ⟨p,0,none⟩),.int .i64 1] 128)):=qR.alloc qL _
 have em:w3.heap.size≠m:=by have:=H8.hM.lt;omega
 have ea:w3.heap.size≠a:=by have:=H8.hW.lt;omega
 have elt:w3.heap.size<(w3.alloc (.cells #[.pointer (some ⟨p,0,none⟩),.int .i64 1] 128)).heap.size:=by simp
 have e0:(w3.alloc (.cells #[.pointer (some ⟨p,0,none⟩),.int .i64 1] 128)).cell? ⟨w3.heap.size,0,none⟩=some (.pointer (some ⟨p,0,none⟩)):=by simp [go_sem]
 have e1:(w3.alloc (.cells #[.pointer (some ⟨p,0,none⟩),.int .i64 1] 128)).cell? ⟨w3.heap.size,1,none⟩=some (.int .i64 1):=by simp [go_sem]
 have H9:RS w0 a m p gp cp gs cs gl cl g mo (.slice (some ⟨g,0,none⟩) 1 c) (.slice none 0 0) 0 (.func (.func 324) #[] #[.pointer (some ⟨bx,0,none⟩)]) 0 (w3.alloc (.cells #[.pointer (some ⟨p,0,none⟩),.int .i64 1] 128)):=H8.below al
 have bc9:=(al.cell (p:=⟨bx,0,none⟩) hbx3).trans bc3
 have hbx9:=Nat.lt_of_lt_of_le hbx3 al.size
 clear H7 hx7 hb3 H8 bc3 s3 hbx3 hbx bc bz hcw q0 qg qgp qgs qgl al
 generalize w3.alloc (.cells #[.pointer (some ⟨p,0,none⟩),.int .i64 1] 128)=W9 at elt e0 e1 H9 bc9 hbx9 ⊢
 generalize w3.heap.size=e at hx8 em ea elt e0 e1
 show Code.wp _ _ _ _ _
 repeat (first|refine wp_seq ?_|refine wp_block ?_)
 refine rg11a rfl a g _ _ x8 hx8 W9 H9.hW.c7 _ _ ?_
 intro x9 hx9
 refine wp_cond_false (hx9.ev 109 (.bool false) sM) ?_
 repeat (first|refine wp_seq ?_|refine wp_block ?_)
 refine rg12t rfl a g (.pointer (some ⟨e,0,none⟩)) x9 (hx9.sub sM) W9 _ _ ?_
 intro x10 hx10
 refine wp_cond_true (hx10.ev 115 (.bool true) sM) ?_
 repeat (first|refine wp_seq ?_|refine wp_block ?_)
 refine wp_then_self ?_
 refine rg13 rfl w0 a m p gp cp gs cs gl cl g c e bx gc mo hmo x10 (hx10.sub sM) W9 H9 elt e0 e1 em ea hbx9 bc9 qm qa _ _ ?_
 intro x11 W11 gf cf hx11 H11 X11 C11 g6 ga gm gg
 show Code.wp prog (Code.goto 0) _ _ _
 refine wp_goto ?_
 show J 0 _ _
 exact hJ _ _ ⟨hx11.1,hx11.2.1,hx11.2.2 (0,_) sM⟩ ⟨g,c,gf,cf,bx,gc,H11,⟨X11.lt,X11.c⟩,C11,g6,ga,gm,gg⟩
set_option maxHeartbeats 4000000 in
theorem stC2(w0:World)(a m gp cp gs cs gl cl:Nat)(mo:Int)(hmo:1≤mo)(p n L:Nat)(T V:ByteArray)(hD:Doc T V n L)(hX:Ix w0 p T n)(J:Nat→Act→World→Prop)(Q:Exit→Act→World→Prop)(x:Act)(W:World)(hx:Ac a x)(hS:StC w0 a m p gp cp gs cs gl cl mo W)(hJ:∀a' W',Ac a a'→StD w0 a m p mo W'→J 0 a' W'): ∃rest,findLabel (scopeBody f163) 0=some (Code.skip.seq rest)∧rest.wp prog (jumps J Q) x W:=by
 obtain ⟨g,c,gf,cf,H,hcf5,g6,g5⟩ :=hS
 have hx1:=hx.fx
 refine ⟨_,rfl,?_⟩
 repeat refine wp_seq ?_
 refine rg2 rfl a g c x hx1 W H.hW.c7 H.hW.c4 _ _ ?_
 intro x2 hx2
 refine wp_cond_false (hx2.ev 30 (.bool false) sM) ?_
 refine wp_skip ?_
 show Code.wp _ _ _ _ _
 repeat refine wp_seq ?_
 refine rg3 rfl a g c x2 (hx2.sub sM) W H.hW.c4 _ _ ?_
 intro x3 n3 hx3
 have H3:RS w0 a m p gp cp gs cs gl cl g mo (.slice (some ⟨g,0,none⟩) 1 c) (.slice (some ⟨gf,0,none⟩) 1 cf) 1 .nilFunc 1 (W.drewN n3):=H.below (below_drewN' qR _)
 have C3:Cw p gf (W.drewN n3):=hcf5.below (below_drewN' qR _)
 generalize W.drewN n3=W3 at H3 C3 ⊢
 clear H hcf5 hx2 hx hx1
 show Code.wp _ _ _ _ _
 repeat refine wp_seq ?_
 refine rg4 rfl a g m gs cs x3 hx3 W3 H3.hW.c0 H3.hM.c1 H3.hC.s.c0 H3.hC.s.c1 H3.hC.s.c2 H3.hF.c0 H3.hW.lt H3.hM.lt H3.hC.s.lt H3.hF.lt _ _ ?_
 intro x4 W4 hx4 b4 l4 d0 d2
 have H4:RS w0 a m p gp cp gs cs gl cl g mo (.slice (some ⟨g,0,none⟩) 1 c) (.slice (some ⟨gf,0,none⟩) 1 cf) 1 .nilFunc 1 W4:=H3.below b4
 have C4:Cw p gf W4:=C3.below b4
 have q4:w0.heap.size≤W3.heap.size:=H3.hb.size
 generalize W3.heap.size=D at hx4 l4 d0 d2 q4
 clear H3 C3 hx3 b4
 show Code.wp _ _ _ _ _
 repeat refine wp_seq ?_
 refine rg5f rfl a g D x4 hx4 W4 H4.hF.c1 d2 _ _ ?_
 intro x5 n5 hx5
 have b5:Below W4.heap.size W4 (W4.drewN n5):=(below_drewN' qR _)
 have H5:RS w0 a m p gp cp gs cs gl cl g mo (.slice (some ⟨g,0,none⟩) 1 c) (.slice (some ⟨gf,0,none⟩) 1 cf) 1 .nilFunc 1 (W4.drewN n5):=H4.below b5
 have C5:Cw p gf (W4.drewN n5):=C4.below b5
 have e0:=(b5.cell (p:=⟨D,0,none⟩) l4).trans d0
 have l5:D<(W4.drewN n5).heap.size:=Nat.lt_of_lt_of_le l4 b5.size
 generalize W4.drewN n5=W5 at H5 C5 e0 l5 ⊢
 refine wp_cond_false (hx5.ev 62 (.bool false) sM) ?_
 clear H4 C4 hx4 d0 d2 l4 b5
 refine wp_skip ?_
 show Code.wp _ _ _ _ _
 repeat (first|refine wp_seq ?_|refine wp_block ?_)
 refine rg14 rfl a g D p n L T V hD x5 (hx5.sub sM) W5 (hX.below H5.hb) H5.hF.c2 H5.hF.c3 H5.hF.c4 H5.hF.c5 H5.hF.lt _ _ ?_
 intro x6 W6 hx6 b6
 have H6:RS w0 a m p gp cp gs cs gl cl g mo (.slice (some ⟨g,0,none⟩) 1 c) (.slice (some ⟨gf,0,none⟩) 1 cf) 1 .nilFunc 1 W6:=H5.below b6
 have C6:Cw p gf W6:=C5.below b6
 have e1:=(b6.cell (p:=⟨D,0,none⟩) l5).trans e0
 clear H5 C5 hx5 b6 e0 l5
 show Code.wp _ _ _ _ _
 repeat (first|refine wp_seq ?_|refine wp_block ?_)
 refine rg15 rfl a g D x6 hx6 W6 e1 _ _ ?_
 intro x7 hx7
 refine wp_cond_false (hx7.ev 144 (.bool false) sM) ?_
 refine wp_skip ?_
 show Code.wp _ _ _ _ _
 repeat (first|refine wp_seq ?_|refine wp_block ?_)
 refine rg19 rfl a g c x7 (hx7.sub sM) W6 H6.hW.c4 H6.hW.z4 _ _ ?_
 intro x8 n8 hx8
 show Code.wp _ _ _ _ _
 refine wp_goto ?_
 show J 0 _ _
 have B8:Below w0.heap.size w0 ((W6.setCell ⟨a,4,none⟩ (.slice (some ⟨g,0,none⟩) 0 c)).drewN n8):=below_drewN' (Below.setCell H6.hb H6.Ba _) n8
 have W8:=(H6.hW.setS (.slice (some ⟨g,0,none⟩) 0 c)).below (below_drewN' qR n8)
 have C8:Cw p gf ((W6.setCell ⟨a,4,none⟩ (.slice (some ⟨g,0,none⟩) 0 c)).drewN n8):=(C6.set (a:=⟨a,4,none⟩) (Ne.symm g5) (.slice (some ⟨g,0,none⟩) 0 c)).below (below_drewN' qR n8)
 exact hJ _ _ ⟨hx8.1,hx8.2.1,hx8.2.2 (0,_) sM⟩ ⟨g,c,gf,cf,W8,B8,C8,g6⟩
end
section
open Go.RowKit
attribute [local go_sem] run_store_nilFunc run_store_func eqn_nil eqn_func
theorem run_0(p n L:Nat)(T V:ByteArray)(hD:Doc T V n L)(gp cp gs cs gl cl m a:Nat)(mo:Int)(hmo:1≤mo)(w0:World)(hX:Ix w0 p T n)(ham:a≠m)(hag:gp≠a∧gs≠a∧gl≠a)(hmg:gp≠m∧gs≠m∧gl≠m)(hBa:w0.heap.size≤a)(hBm:w0.heap.size≤m)(w:World)(h0:Below w0.heap.size w0 w)(hW:Wk m (.slice none 0 0) (.slice none 0 0) mo a w)(hM:Mc gp cp gs cs gl cl p 0 m w)(hC:Cd gp gs gl w): Calls prog 163 #[.pointer (some ⟨a,0,none⟩),.agg #[.pointer (some ⟨p,0,none⟩),.int .i64 (-1)]] w fun e w'=>RunP w0 m a p mo e w':=by
 go_enter func163,ntmps163
 have alt:=hW.lt
 have:a<w.heap.size+1:=oM
 have:a<w.heap.size+1+1:=oM
 have aw0:=hW.c0
 have aw1:=hW.c1
 have aw2:=hW.c2
 have aw3:=hW.c3
 have aw4:=hW.c4
 have aw5:=hW.c5
 have aw6:=hW.c6
 have aw7:=hW.c7
 have awz4:=hW.z4
 have awz5:=hW.z5
 have awz7:=hW.z7
 have mlt:=hM.lt
 have:m<w.heap.size+1:=oM
 have:m<w.heap.size+1+1:=oM
 have m0:=hM.c0
 have m1:=hM.c1
 have m2:=hM.c2
 have m3:=hM.c3
 have m4:=hM.c4
 have m5:=hM.c5
 have m6:=hM.c6
 have mz6:=hM.z6
 go_wp2_with fail
 refine wp_scope_pass (fun n l x w'=>l=0∧Ac a x∧(n=3∧StA w0 a m p gp cp gs cs gl cl mo w'∨n=2∧StB w0 a m p gp cp gs cs gl cl mo w'∨n=1∧StC w0 a m p gp cp gs cs gl cl mo w'∨n=0∧StD w0 a m p mo w')) 4 ?_ ?_
 ·rintro q l x w' ⟨rfl,hx,⟨rfl,hS⟩|⟨rfl,hS⟩|⟨rfl,hS⟩|⟨rfl,hS⟩⟩
  ·exact stA2 w0 a m gp cp gs cs gl cl mo hmo p n L T V hD hX _ _ x w' hx hS (fun a' W' h1 h2=>⟨2,by omega,rfl,h1,.inr (.inl ⟨rfl,h2⟩)⟩)
  ·exact stB2 w0 a m gp cp gs cs gl cl mo hmo p n L T V hD hX _ _ x w' hx hS (fun a' W' h1 h2=>⟨1,by omega,rfl,h1,.inr (.inr (.inl ⟨rfl,h2⟩))⟩)
  ·exact stC2 w0 a m gp cp gs cs gl cl mo hmo p n L T V hD hX _ _ x w' hx hS (fun a' W' h1 h2=>⟨0,by omega,rfl,h1,.inr (.inr (.inr ⟨rfl,h2⟩))⟩)
  ·exact stD w0 a m gp cp gs cs gl cl mo hmo p n L T V hD hX _ _ x w' hx hS (fun ts W' h=>bodyPost_ret (results_none rfl _ _ _) rfl h)
 ·intro hin
  go_wp2_with fail
  apply wp_cut2 (fun g c W'=>Hid (RS w0 a m p gp cp gs cs gl cl g mo (.slice (some ⟨g,0,none⟩) 1 c) (.slice none 0 0) 0 (.nilFunc) 0 W'))
  ·go_region_law ((first|(go_simp;go_at_call 224;refine (meet_0 gp cp gs cs gl cl p m a _ mo _ (hW.below tq4) (hM.below tq4) (hC.below tq4)).mono ?_;rintro e w1 ⟨rfl,g,c,W1,rfl,hb,hg,hF⟩;have HB:=bel_step (w:=w) tq4 hb;clear hb)))
   all_goals
    have l1:=hW.lt
    have l2:=hM.lt
    have l3:=hC.p.lt
    have l4:=hC.s.lt
    have l5:=hC.l.lt
    have l6:=h0.size
    simp at hg
    exact ⟨g,c,rfl,hid (RS.setS (st:=.slice none 0 0) ⟨hW.below HB.out,hM.below HB.out,hC.below HB.out,hF,h0.trans (HB.out.mono h0.size),hBa,hBm,by omega,ham,by omega,by omega,hag.1,hmg.1,by omega,hag.2.1,hmg.2.1,by omega,hag.2.2,hmg.2.2,by omega⟩ _)⟩
  rintro g c W H0
  clear h0
  go_wp2_with fail
  go_step3
  rename_i hK
  exact hK _ _ <| hin 3 0 _ _ _ oM rfl ⟨rfl,⟨rfl,rfl,rfl⟩,.inl ⟨rfl,g,c,H0.out⟩⟩
end
section
open Go.RowKit
def WalkedP (w0:World) (p:Nat) (e:Ending) (w':World):Prop:=∃g c,e=.returned (.tuple #[.slice (some ⟨g,0,none⟩) 1 c,.int .i64 0])∧Below w0.heap.size w0 w'∧Cw p g w'∧w0.heap.size≤g
theorem walked_0(p n L:Nat)(T V:ByteArray)(hD:Doc T V n L)(gp cp gs cs gl cl m:Nat)(mo:Int)(hmo:1≤mo)(w0:World)(hX:Ix w0 p T n)(hmg:gp≠m∧gs≠m∧gl≠m)(hBm:w0.heap.size≤m)(w:World)(h0:Below w0.heap.size w0 w)(hM:Mc gp cp gs cs gl cl p 0 m w)(hC:Cd gp gs gl w): Calls prog 87 #[.pointer (some ⟨m,0,none⟩),.int .i64 0,.agg #[.pointer (some ⟨p,0,none⟩),.int .i64 (-1)],.int .i64 mo] w fun e w'=>WalkedP w0 p e w':=by
 go_enter func87,ntmps87
 have mlt:=hM.lt
 have:m<w.heap.size+1:=oM
 have:m<w.heap.size+1+1:=oM
 have:m<w.heap.size+1+1+1:=oM
 have:m<w.heap.size+1+1+1+1:=oM
 have:m<w.heap.size+1+1+1+1+1:=oM
 have m0:=hM.c0
 have m1:=hM.c1
 have m2:=hM.c2
 have m3:=hM.c3
 have m4:=hM.c4
 have m5:=hM.c5
 have m6:=hM.c6
 have mz6:=hM.z6
 have:gp<w.heap.size:=by have:=hC.p.lt;omega
 have:gp<w.heap.size+1:=by have:=hC.p.lt;omega
 have:gp<w.heap.size+1+1:=by have:=hC.p.lt;omega
 have:gp<w.heap.size+1+1+1:=by have:=hC.p.lt;omega
 have:gp<w.heap.size+1+1+1+1:=by have:=hC.p.lt;omega
 have:gp<w.heap.size+1+1+1+1+1:=by have:=hC.p.lt;omega
 have:gs<w.heap.size:=by have:=hC.s.lt;omega
 have:gs<w.heap.size+1:=by have:=hC.s.lt;omega
 have:gs<w.heap.size+1+1:=by have:=hC.s.lt;omega
 have:gs<w.heap.size+1+1+1:=by have:=hC.s.lt;omega
 have:gs<w.heap.size+1+1+1+1:=by have:=hC.s.lt;omega
 have:gs<w.heap.size+1+1+1+1+1:=by have:=hC.s.lt;omega
 have:gl<w.heap.size:=by have:=hC.l.lt;omega
 have:gl<w.heap.size+1:=by have:=hC.l.lt;omega
 have:gl<w.heap.size+1+1:=by have:=hC.l.lt;omega
 have:gl<w.heap.size+1+1+1:=by have:=hC.l.lt;omega
 have:gl<w.heap.size+1+1+1+1:=by have:=hC.l.lt;omega
 have:gl<w.heap.size+1+1+1+1+1:=by have:=hC.l.lt;omega
 have dp0:=hC.p.c0
 have dp1:=hC.p.c1
 have dp2:=hC.p.c2
 have ds0:=hC.s.c0
 have ds1:=hC.s.c1
 have ds2:=hC.s.c2
 have dl0:=hC.l.c0
 have dl1:=hC.l.c1
 have dl2:=hC.l.c2
 have dl3:=hC.l.c3
 have dl4:=hC.l.c4
 have dl5:=hC.l.c5
 have dl6:=hC.l.c6
 have dl7:=hC.l.c7
 go_wp2_with fail
 have:Hid (Below w0.heap.size w0 w):=hid h0
 have w0le:=h0.size
 have l1:=hC.p.lt;have l2:=hC.s.lt;have l3:=hC.l.lt;have l4:=hM.lt
 refine (run_0 p n L T V hD gp cp gs cs gl cl m (w.heap.size+1+1) mo hmo w0 hX oM ⟨by omega,by omega,by omega⟩ hmg oM hBm _ tq4 ⟨by simp,by simp [go_sem],by simp [go_sem],by simp [go_sem],by simp [go_sem],by simp [go_sem],by simp [go_sem],by simp [go_sem],by simp [go_sem],by simp [go_sem],by simp [go_sem],by simp [go_sem]⟩ (hM.below tq4) (hC.below tq4)).mono ?_;rintro e w1 ⟨rfl,hb,st,g,c,hW1,hcf,hg⟩
 have y5:=hW1.c5;have y7:=hW1.c7;have ylt:=hW1.lt
 go_wp2_with fail
 go_region
 go_wp2_with fail
 try simp only [Exit.inBlock,Exit.then]
 refine bodyPost_ret (v:=.tuple #[.slice (some ⟨g,0,none⟩) 1 c,.int .i64 0]) (by simp [results,results87,go_sem, *]) rfl ⟨g,c,rfl,hb.drew,hcf.below qR.drew,hg⟩
theorem run99_0(p n L:Nat)(T V:ByteArray)(hD:Doc T V n L)(gp cp gs cs gl cl:Nat)(k1:1≤cs)(k2:1≤cl)(mo:Int)(hmo:1≤mo)(hmo2:mo≤5000)(w:World)(hX:Ix w p T n)(hC:Cd gp gs gl w): Calls prog 46 #[.agg #[.slice (some ⟨gp,0,none⟩) 1 (cp:Nat),.slice (some ⟨gs,0,none⟩) 1 (cs:Nat),.slice (some ⟨gl,0,none⟩) 1 (cl:Nat),.slice none 0 0],.pointer (some ⟨p,0,none⟩),.int .i64 mo] w fun e w'=>WalkedP w p e w':=by
 have:¬mo<0:=oM
 have:¬5000<mo:=oM
 go_enter func46,ntmps46
 go_wp2_with fail
 refine (sound_0 gp cp gs cs gl cl k1 k2 _ (hC.below tq4)).mono ?_;rintro e w1 ⟨rfl,hb1⟩
 have s1:=hb1.size;try simp at s1
 try (have:w.heap.size<w1.heap.size:=oM)
 try (have:w.heap.size<w1.heap.size+1:=oM)
 try (have:w.heap.size<w1.heap.size+1+1:=oM)
 try (have e1_0_0_0:=hb1.cl w.heap.size 0;simp [go_sem, *] at e1_0_0_0)
 try (have f1_0_0_0:=hb1.fz w.heap.size 0;simp [go_sem, *] at f1_0_0_0)
 try (have e1_0_0_1:=hb1.cl w.heap.size 1;simp [go_sem, *] at e1_0_0_1)
 try (have f1_0_0_1:=hb1.fz w.heap.size 1;simp [go_sem, *] at f1_0_0_1)
 try (have e1_0_0_2:=hb1.cl w.heap.size 2;simp [go_sem, *] at e1_0_0_2)
 try (have f1_0_0_2:=hb1.fz w.heap.size 2;simp [go_sem, *] at f1_0_0_2)
 try (have e1_0_0_3:=hb1.cl w.heap.size 3;simp [go_sem, *] at e1_0_0_3)
 try (have f1_0_0_3:=hb1.fz w.heap.size 3;simp [go_sem, *] at f1_0_0_3)
 have HB1:=bel_step (w:=w) tq4 hb1
 clear hb1
 go_wp2_with fail
 have l1:=hC.p.lt;have l2:=hC.s.lt;have l3:=hC.l.lt
 go_region_law ((first|(go_simp;go_at_call 86;refine (root_any p _).mono ?_;rintro e w9 ⟨rfl,rfl⟩)))
 all_goals go_wp2_with fail
 all_goals (refine (walked_0 p n L T V hD gp cp gs cs gl cl (w1.heap.size+1) mo hmo w hX ⟨by omega,by omega,by omega⟩ oM _ tq4 ⟨by simp,by simp [go_sem],by simp [go_sem],by simp [go_sem],by simp [go_sem],by simp [go_sem],by simp [go_sem],by simp [go_sem],by simp [go_sem]⟩ (hC.below tq4)).mono ?_;rintro e w2 ⟨g,c,rfl,hb,hcf,hg⟩)
 all_goals go_wp2_with fail
 all_goals try simp only [Exit.inBlock,Exit.then]
 all_goals exact bodyPost_ret (v:=.tuple #[.slice (some ⟨g,0,none⟩) 1 c,.int .i64 0]) (by simp [results,results46,go_sem, *]) rfl ⟨g,c,rfl,hb,hcf,hg⟩
theorem sindex_0(s p n:Nat)(w:World)(h:Se w s p n): Calls prog 27 #[.pointer (some ⟨s,0,none⟩),.int .i64 0] w fun e w'=>e=.returned (.tuple #[.pointer (some ⟨p,0,none⟩),.int .i64 0])∧Below w.heap.size w w':=by
 obtain ⟨file,deep,lr,lc,xr,xc,at_,h1,h2,h3⟩ :=h
 have l1:=h1.lt;have l2:=h2.lt;have l3:=h3.lt
 have a0:=h1.c0;have a1:=h1.c1;have a2:=h1.c2;have a3:=h1.c3
 have b0:=h2.c0;have b1:=h2.c1;have b2:=h2.c2;have b3:=h2.c3
 have c0:=h3.c0
 have:s<w.heap.size+1:=oM
 have:lr<w.heap.size+1:=oM
 have:xr<w.heap.size+1:=oM
 have:s<w.heap.size+1+1:=oM
 have:lr<w.heap.size+1+1:=oM
 have:xr<w.heap.size+1+1:=oM
 have:s<w.heap.size+1+1+1:=oM
 have:lr<w.heap.size+1+1+1:=oM
 have:xr<w.heap.size+1+1+1:=oM
 go_enter func27,ntmps27
 go_wp2_with fail
 go_wp2_with fail
 go_ret2
 exact ⟨rfl,tq4⟩
theorem srecord_0(s p n:Nat)(w:World)(h:Se w s p n): Calls prog 47 #[.pointer (some ⟨s,0,none⟩),.int .i64 0] w fun e w'=>∃at_,e=.returned (.tuple #[.agg #[.int .i64 0,.int .i64 (n:Nat),.int .i64 1,.int .i64 at_],.int .i64 0])∧Below w.heap.size w w':=by
 obtain ⟨file,deep,lr,lc,xr,xc,at_,h1,h2,h3⟩ :=h
 have l1:=h1.lt;have l2:=h2.lt;have l3:=h3.lt
 have a0:=h1.c0;have a1:=h1.c1;have a2:=h1.c2;have a3:=h1.c3
 have b0:=h2.c0;have b1:=h2.c1;have b2:=h2.c2;have b3:=h2.c3
 have c0:=h3.c0
 have:s<w.heap.size+1:=oM
 have:lr<w.heap.size+1:=oM
 have:xr<w.heap.size+1:=oM
 have:s<w.heap.size+1+1:=oM
 have:lr<w.heap.size+1+1:=oM
 have:xr<w.heap.size+1+1:=oM
 have:s<w.heap.size+1+1+1:=oM
 have:lr<w.heap.size+1+1+1:=oM
 have:xr<w.heap.size+1+1+1:=oM
 go_enter func47,ntmps47
 go_wp2_with fail
 try simp only [Exit.inBlock,Exit.then]
 refine bodyPost_ret (v:=.tuple #[.agg #[.int .i64 0,.int .i64 (n:Nat),.int .i64 1,.int .i64 at_],.int .i64 0]) (by simp [results,results47,go_sem, *]) rfl ⟨at_,rfl,tq4⟩
theorem LeafP.below{w w':World}{p:Nat}{C:ByteArray}(h:LeafP w p C)(hb:Below w.heap.size w w'): LeafP w' p C:=fun W hW=>h W (hb.trans (hW.mono hb.size))
def Hit (L k:Nat) (C:ByteArray) (g:Nat) (w:World):Prop:=g<w.heap.size∧w.cell? ⟨g,0,none⟩=some (.string ⟨#[36,91,48,93]⟩)∧w.cell? ⟨g,1,none⟩=some (.int .i64 1)∧w.cell? ⟨g,2,none⟩=some (.int .i64 (L:Nat))∧w.cell? ⟨g,3,none⟩=some (.int .i64 (k:Nat))∧w.cell? ⟨g,4,none⟩=some (.string C)
theorem Hit.below{w w':World}{L k g:Nat}{C:ByteArray}(h:Hit L k C g w)(hb:Below w.heap.size w w'): Hit L k C g w':=by
 obtain ⟨a,b,c,d,e,f⟩ :=h
 exact ⟨Nat.lt_of_lt_of_le a hb.size,(hb.cell (p:=⟨g,0,none⟩) a).trans b,(hb.cell (p:=⟨g,1,none⟩) a).trans c,(hb.cell (p:=⟨g,2,none⟩) a).trans d,(hb.cell (p:=⟨g,3,none⟩) a).trans e,(hb.cell (p:=⟨g,4,none⟩) a).trans f⟩
theorem Hit.set{w:World}{L k g:Nat}{C:ByteArray}(h:Hit L k C g w){q:Addr}(hq:q.block≠g)(v:Value): Hit L k C g (w.setCell q v):=by
 obtain ⟨a,b,c,d,e,f⟩ :=h
 have key:∀j,(w.setCell q v).cell? ⟨g,j,none⟩=w.cell? ⟨g,j,none⟩ :=fun j=>qO (by intro e;exact hq (by rw [e]))
 exact ⟨by simpa [World.setCell] using a,(key 0).trans b,(key 1).trans c,(key 2).trans d,(key 3).trans e,(key 4).trans f⟩
structure Hh (w0:World) (Y Pb p L:Nat) (W:World):Prop where
 bel:Below w0.heap.size w0 W
 ly:Y<W.heap.size
 lp:Pb<W.heap.size
 y0:W.cell? ⟨Y,0,none⟩=some (.pointer (some ⟨p,0,none⟩))
 y1:W.cell? ⟨Y,1,none⟩=some (.int .i64 1)
 p0:W.cell? ⟨Pb,0,none⟩=some (.int .i64 1)
 p1:W.cell? ⟨Pb,1,none⟩=some (.int .i64 (L:Nat))
theorem Hh.next{w0 W W':World}{Y Pb p L:Nat}(h:Hh w0 Y Pb p L W)(hb:Below W.heap.size W W'): Hh w0 Y Pb p L W':=⟨h.bel.trans (hb.mono h.bel.size),Nat.lt_of_lt_of_le h.ly hb.size,Nat.lt_of_lt_of_le h.lp hb.size,(hb.cell (p:=⟨Y,0,none⟩) h.ly).trans h.y0,(hb.cell (p:=⟨Y,1,none⟩) h.ly).trans h.y1,(hb.cell (p:=⟨Pb,0,none⟩) h.lp).trans h.p0,(hb.cell (p:=⟨Pb,1,none⟩) h.lp).trans h.p1⟩
theorem hh_held{w0 W:World}{Y Pb p L:Nat}(h:Hid (Hh w0 Y Pb p L W)): W.cell? ⟨Y,0,none⟩=some (.pointer (some ⟨p,0,none⟩))∧W.cell? ⟨Y,1,none⟩=some (.int .i64 1)∧W.cell? ⟨Pb,0,none⟩=some (.int .i64 1)∧W.cell? ⟨Pb,1,none⟩=some (.int .i64 (L:Nat))∧Hid (Hh w0 Y Pb p L W):=⟨h.out.y0,h.out.y1,h.out.p0,h.out.p1,h⟩
theorem hh_alloc{w0 W:World}{Y Pb p L:Nat}(h:Hid (Hh w0 Y Pb p L W))(o:Obj): Hid (Hh w0 Y Pb p L (W.alloc o)):=hid (h.out.next (qR.alloc qL o))
theorem hh_drew{w0 W:World}{Y Pb p L:Nat}(h:Hid (Hh w0 Y Pb p L W)): Hid (Hh w0 Y Pb p L W.drew):=hid (h.out.next qR.drew)
theorem Hh.drew{w0 W:World}{Y Pb p L:Nat}(h:Hh w0 Y Pb p L W): Hh w0 Y Pb p L W.drew:=h.next qR.drew
def HitsP (w:World) (L k:Nat) (C:ByteArray) (e:Ending) (w':World):Prop:=∃g c,e=.returned (.tuple #[.slice (some ⟨g,0,none⟩) 1 c,.int .i64 0])∧Hit L k C g w'∧w.heap.size≤g∧Below w.heap.size w w'
theorem hits_0(p n L:Nat)(T V:ByteArray)(hD:Doc T V n L)(c:Int)(k:Nat)(hV:0<V.size)(hc:((V[0]'hV).toNat:Int)=c)(hk:Kd c k)(hk4:k<4)(C:ByteArray)(hCs:C.size≤100000)(s gp cp gs cs gl cl:Nat)(k1:1≤cs)(k2:1≤cl)(mo:Int)(hmo:1≤mo)(hmo2:mo≤5000)(w:World)(hX:Ix w p T n)(hLf:LeafP w p C)(hS:Se w s p n)(hC:Cd gp gs gl w): Calls prog 28 #[.pointer (some ⟨s,0,none⟩),.int .i64 0,.pointer (some ⟨p,0,none⟩),.agg #[.slice (some ⟨gp,0,none⟩) 1 (cp:Nat),.slice (some ⟨gs,0,none⟩) 1 (cs:Nat),.slice (some ⟨gl,0,none⟩) 1 (cl:Nat),.slice none 0 0],.int .i64 mo] w fun e w'=>HitsP w L k C e w':=by
 obtain ⟨i0,hi0,hz0,hs0,hb0⟩ :=info_parts info125
 go_enter func28,ntmps28
 go_wp2_with fail
 refine (run99_0 p n L T V hD gp cp gs cs gl cl k1 k2 mo hmo hmo2 _ (hX.below tq4) (hC.below tq4)).mono ?_;rintro e w1 ⟨g,cc,rfl,hb1,hcf,hg⟩
 have s1:=hb1.size;try simp at s1
 have HB1:=bel_step (w:=w) tq4 hb1
 clear hb1
 have g0:=hcf.c0;have g1:=hcf.c1;have gl0:=hcf.lt
 have:g<w1.heap.size+1:=oM
 have:g<w1.heap.size+1+1:=oM
 have:g<w1.heap.size+1+1+1:=oM
 have:g<w1.heap.size+1+1+1+1:=oM
 have:g<w1.heap.size+1+1+1+1+1:=oM
 go_wp2_with fail
 refine (srecord_0 s p n _ (hS.below tq4)).mono ?_;rintro e w2 ⟨at_,rfl,hb2⟩
 have s2:=hb2.size;try simp at s2
 have g2:=(hb2.cl g 0);simp [go_sem,g0] at g2
 have g3:=(hb2.cl g 1);simp [go_sem,g1] at g3
 have HB2:=bel_step (w:=w) tq4 hb2
 clear hb2
 have:g<w2.heap.size:=oM
 have:g<w2.heap.size+1:=oM
 have:g<w2.heap.size+1+1:=oM
 have:g<w2.heap.size+1+1+1:=oM
 have:g<w2.heap.size+1+1+1+1:=oM
 have:g<w2.heap.size+1+1+1+1+1:=oM
 go_wp2_with (first|(refine wp_loop_unr 3 ?_;refine Unr.step ?_;intro U hU)|(refine Unr.step ?_;intro U hU))
 refine (span_1 p n L T V hD _ (hX.below tq4)).mono ?_;rintro e w3 ⟨rfl,hb3⟩
 have s3:=hb3.size;try simp at s3
 try (have:w2.heap.size<w3.heap.size:=oM)
 try (have:w2.heap.size<w3.heap.size+1:=oM)
 try (have:w2.heap.size<w3.heap.size+1+1:=oM)
 try (have:w2.heap.size+1<w3.heap.size:=oM)
 try (have:w2.heap.size+1<w3.heap.size+1:=oM)
 try (have:w2.heap.size+1<w3.heap.size+1+1:=oM)
 try (have e3_2_0_0:=hb3.cl w2.heap.size 0;simp [go_sem, *] at e3_2_0_0)
 try (have f3_2_0_0:=hb3.fz w2.heap.size 0;simp [go_sem, *] at f3_2_0_0)
 try (have e3_2_0_1:=hb3.cl w2.heap.size 1;simp [go_sem, *] at e3_2_0_1)
 try (have f3_2_0_1:=hb3.fz w2.heap.size 1;simp [go_sem, *] at f3_2_0_1)
 try (have e3_2_0_2:=hb3.cl w2.heap.size 2;simp [go_sem, *] at e3_2_0_2)
 try (have f3_2_0_2:=hb3.fz w2.heap.size 2;simp [go_sem, *] at f3_2_0_2)
 try (have e3_2_0_3:=hb3.cl w2.heap.size 3;simp [go_sem, *] at e3_2_0_3)
 try (have f3_2_0_3:=hb3.fz w2.heap.size 3;simp [go_sem, *] at f3_2_0_3)
 try (have e3_2_1_0:=hb3.cl (w2.heap.size+1) 0;simp [go_sem, *] at e3_2_1_0)
 try (have f3_2_1_0:=hb3.fz (w2.heap.size+1) 0;simp [go_sem, *] at f3_2_1_0)
 try (have e3_2_1_1:=hb3.cl (w2.heap.size+1) 1;simp [go_sem, *] at e3_2_1_1)
 try (have f3_2_1_1:=hb3.fz (w2.heap.size+1) 1;simp [go_sem, *] at f3_2_1_1)
 have HB3:=bel_step (w:=w) tq4 hb3
 clear hb3
 go_wp2_with fail
 have hL9:=hD.n1;have hL8:=hD.hL;have:wrap64 (L:Int)=L:=by unfold wrap64;omega
 clear hL9 hL8
 go_region
 go_wp2_with fail
 have:w2.heap.size+1<w3.heap.size:=oM
 have:w.heap.size≤w3.heap.size:=HB3.out.size
 have HX4:Hid (Hh w (w2.heap.size+1) w3.heap.size p L ((w3.alloc (.cells #[.int .i64 1,.int .i64 (L:Nat)] 66)).drew)):=hid ⟨tq4,by simp;omega,by simp,by simp [go_sem, *],by simp [go_sem, *],by simp [go_sem, *],by simp [go_sem, *]⟩
 generalize hWW:((w3.alloc (.cells #[.int .i64 1,.int .i64 (L:Nat)] 66)).drew)=W4 at HX4 ⊢
 clear hWW
 obtain ⟨-,ly4,lp4,ya4,yb4,pa4,pb4⟩ :=id HX4.out
 have hs1:∀(W:World) (hW:Hh w (w2.heap.size+1) w3.heap.size p L W),Calls prog 49 #[.agg #[.pointer (some ⟨p,0,none⟩),.int .i64 1]] W fun e w'=>e=.returned (.string ⟨#[36,91,48,93]⟩)∧Hh w (w2.heap.size+1) w3.heap.size p L w':=fun W hW=>(path_1 p n L T V hD W (hX.below hW.bel)).mono fun e w' ⟨a,b⟩ =>⟨a,hW.next b⟩
 have hs2:∀(W:World) (hW:Hh w (w2.heap.size+1) w3.heap.size p L W),Calls prog 50 #[.agg #[.pointer (some ⟨p,0,none⟩),.int .i64 1]] W fun e w'=>e=.returned (.int .i64 (k:Nat))∧Hh w (w2.heap.size+1) w3.heap.size p L w':=fun W hW=>(kind_1 p n L T V hD c k hV hc hk hk4 W (hX.below hW.bel)).mono fun e w' ⟨a,b⟩ =>⟨a,hW.next b⟩
 have hs3:∀(W:World) (hW:Hh w (w2.heap.size+1) w3.heap.size p L W),Calls prog 51 #[.agg #[.pointer (some ⟨p,0,none⟩),.int .i64 1]] W fun e w'=>e=.returned (.string C)∧Hh w (w2.heap.size+1) w3.heap.size p L w':=fun W hW=>(value_1 p n L T V hD c k hV hc hk hk4 C hCs W (hX.below hW.bel) (hLf.below hW.bel)).mono fun e w' ⟨a,b⟩ =>⟨a,hW.next b⟩
 go_region_held3 (fun w'=>w'.cell? ⟨w2.heap.size+1,0,none⟩=some (.pointer (some ⟨p,0,none⟩))∧w'.cell? ⟨w2.heap.size+1,1,none⟩=some (.int .i64 1)∧w'.cell? ⟨w3.heap.size,0,none⟩=some (.int .i64 1)∧w'.cell? ⟨w3.heap.size,1,none⟩=some (.int .i64 (L:Nat))∧Hid (Hh w (w2.heap.size+1) w3.heap.size p L w')) (first|exact hh_held aM|exact hh_held (hh_drew aM)|exact hh_held (hh_alloc aM _)) (first|(go_at_call 49;refine (hs1 _ (by repeat' (first|exact Hid.out aM|refine Hh.drew ?_))).mono ?_;rintro e w5 ⟨rfl,hb⟩;have HX5:=hid hb;clear hb)|(go_at_call 50;refine (hs2 _ (by repeat' (first|exact Hid.out aM|refine Hh.drew ?_))).mono ?_;rintro e w6 ⟨rfl,hb⟩;have HX6:=hid hb;clear hb)|(go_at_call 51;refine (hs3 _ (by repeat' (first|exact Hid.out aM|refine Hh.drew ?_))).mono ?_;rintro e w7 ⟨rfl,hb⟩;have HX7:=hid hb;clear hb)|((first|refine step_push rfl _ _ 27 rfl 132 i0 _ 5 56 underlying27 hi0 hz0 hs0 hb0 rfl oM (Acc.nil qR 132 5) rfl rfl (by first|rfl|simp) rfl rfl oM oM ?_|refine step_push_d rfl _ _ 27 rfl 132 i0 _ 5 56 underlying27 hi0 hz0 hs0 hb0 rfl oM (Acc.nil qR 132 5) rfl rfl (by first|rfl|simp) rfl rfl oM oM ?_|refine step_push_dd rfl _ _ 27 rfl 132 i0 _ 5 56 underlying27 hi0 hz0 hs0 hb0 rfl oM (Acc.nil qR 132 5) rfl rfl (by first|rfl|simp) rfl rfl oM oM ?_|refine step_push_d3 rfl _ _ 27 rfl 132 i0 _ 5 56 underlying27 hi0 hz0 hs0 hb0 rfl oM (Acc.nil qR 132 5) rfl rfl (by first|rfl|simp) rfl rfl oM oM ?_);intro gn cn w8 hA;have hgn:w.heap.size≤gn:=Nat.le_trans ((by repeat' (first|exact Hid.out aM|refine Hh.drew ?_)):Hh w (w2.heap.size+1) w3.heap.size p L _).bel.size hA.row.1;have HX8:=hid (((by repeat' (first|exact Hid.out aM|refine Hh.drew ?_)):Hh w (w2.heap.size+1) w3.heap.size p L _).next hA.bel);have HA:=hid hA;clear hA))
 have hr:=HA.out.row
 have HT:Hid (Hit L k C gn w8):=hid ⟨hr.2.1,hr.2.2 0 _ rfl,hr.2.2 1 _ rfl,hr.2.2 2 _ rfl,hr.2.2 3 _ rfl,hr.2.2 4 _ rfl⟩
 have HB8:Hid (Below w.heap.size w w8):=hid HX8.out.bel
 clear hr HA
 go_wp2_with (first|(refine wp_loop_unr 3 ?_;refine Unr.step ?_;intro U hU)|(refine Unr.step ?_;intro U hU))
 try simp only [Exit.inBlock,Exit.then]
 refine bodyPost_ret (v:=.tuple #[.slice (some ⟨gn,0,none⟩) 1 cn,.int .i64 0]) (by simp [results,results28,go_sem]) rfl ⟨gn,cn,rfl,HT.out,hgn,HB8.out⟩
def AskP (w:World) (L k:Nat) (C:ByteArray) (e:Ending) (w':World):Prop:=∃g c,e=.returned (.tuple #[.slice (some ⟨g,0,none⟩) 1 c,.agg #[.int .i64 0,.int .i64 0]])∧Hit L k C g w'∧w.heap.size≤g∧Below w.heap.size w w'
theorem ask_0(p n L:Nat)(T V:ByteArray)(hD:Doc T V n L)(c:Int)(k:Nat)(hV:0<V.size)(hc:((V[0]'hV).toNat:Int)=c)(hk:Kd c k)(hk4:k<4)(C:ByteArray)(hCs:C.size≤100000)(s:Nat)(mo:Int)(hmo:1≤mo)(hmo2:mo≤5000)(w:World)(hX:Ix w p T n)(hLf:LeafP w p C)(hS:Se w s p n): Calls prog 14 #[.pointer (some ⟨s,0,none⟩),.int .i64 0,.string ⟨#[36,91,48,93]⟩,.int .i64 mo] w fun e w'=>AskP w L k C e w':=by
 go_enter func14,ntmps14
 go_wp2_with fail
 refine (query_any _).mono ?_;rintro e w1 ⟨gp,cp,gs,cs,gl,cl,rfl,hCd,⟨k1,k2⟩,hb1⟩
 have s1:=hb1.size;try simp at s1
 try (have:w.heap.size<w1.heap.size:=oM)
 try (have:w.heap.size<w1.heap.size+1:=oM)
 try (have:w.heap.size<w1.heap.size+1+1:=oM)
 try (have e1_0_0_0:=hb1.cl w.heap.size 0;simp [go_sem, *] at e1_0_0_0)
 try (have f1_0_0_0:=hb1.fz w.heap.size 0;simp [go_sem, *] at f1_0_0_0)
 try (have e1_0_0_1:=hb1.cl w.heap.size 1;simp [go_sem, *] at e1_0_0_1)
 try (have f1_0_0_1:=hb1.fz w.heap.size 1;simp [go_sem, *] at f1_0_0_1)
 have HB1:=bel_step (w:=w) tq4 hb1
 clear hb1
 go_wp2_with fail
 refine (sindex_0 s p n _ (hS.below tq4)).mono ?_;rintro e w2 ⟨rfl,hb2⟩
 have s2:=hb2.size;try simp at s2
 try (have:w.heap.size<w2.heap.size:=oM)
 try (have:w.heap.size<w2.heap.size+1:=oM)
 try (have:w.heap.size<w2.heap.size+1+1:=oM)
 try (have:w1.heap.size<w2.heap.size:=oM)
 try (have:w1.heap.size<w2.heap.size+1:=oM)
 try (have:w1.heap.size<w2.heap.size+1+1:=oM)
 try (have:w1.heap.size+1<w2.heap.size:=oM)
 try (have:w1.heap.size+1<w2.heap.size+1:=oM)
 try (have:w1.heap.size+1<w2.heap.size+1+1:=oM)
 try (have e2_0_0_0:=hb2.cl w.heap.size 0;simp [go_sem, *] at e2_0_0_0)
 try (have f2_0_0_0:=hb2.fz w.heap.size 0;simp [go_sem, *] at f2_0_0_0)
 try (have e2_0_0_1:=hb2.cl w.heap.size 1;simp [go_sem, *] at e2_0_0_1)
 try (have f2_0_0_1:=hb2.fz w.heap.size 1;simp [go_sem, *] at f2_0_0_1)
 try (have e2_1_0_0:=hb2.cl w1.heap.size 0;simp [go_sem, *] at e2_1_0_0)
 try (have f2_1_0_0:=hb2.fz w1.heap.size 0;simp [go_sem, *] at f2_1_0_0)
 try (have e2_1_0_1:=hb2.cl w1.heap.size 1;simp [go_sem, *] at e2_1_0_1)
 try (have f2_1_0_1:=hb2.fz w1.heap.size 1;simp [go_sem, *] at f2_1_0_1)
 try (have e2_1_0_2:=hb2.cl w1.heap.size 2;simp [go_sem, *] at e2_1_0_2)
 try (have f2_1_0_2:=hb2.fz w1.heap.size 2;simp [go_sem, *] at f2_1_0_2)
 try (have e2_1_0_3:=hb2.cl w1.heap.size 3;simp [go_sem, *] at e2_1_0_3)
 try (have f2_1_0_3:=hb2.fz w1.heap.size 3;simp [go_sem, *] at f2_1_0_3)
 try (have e2_1_1_0:=hb2.cl (w1.heap.size+1) 0;simp [go_sem, *] at e2_1_1_0)
 try (have f2_1_1_0:=hb2.fz (w1.heap.size+1) 0;simp [go_sem, *] at f2_1_1_0)
 try (have e2_1_1_1:=hb2.cl (w1.heap.size+1) 1;simp [go_sem, *] at e2_1_1_1)
 try (have f2_1_1_1:=hb2.fz (w1.heap.size+1) 1;simp [go_sem, *] at f2_1_1_1)
 have HB2:=bel_step (w:=w) tq4 hb2
 have HC2:Hid (Cd gp gs gl w2):=hid ((hCd.below tq4).below hb2)
 clear hb2
 go_wp2_with fail
 refine (hits_0 p n L T V hD c k hV hc hk hk4 C hCs s gp cp gs cs gl cl k1 k2 mo hmo hmo2 _ (hX.below tq4) (hLf.below tq4) (hS.below tq4) (HC2.out.below tq4)).mono ?_;rintro e w3 ⟨g,cc,rfl,hH,hgg,hb3⟩
 have s3:=hb3.size;try simp at s3
 try (have:w.heap.size<w3.heap.size:=oM)
 try (have:w.heap.size<w3.heap.size+1:=oM)
 try (have:w.heap.size<w3.heap.size+1+1:=oM)
 try (have:w1.heap.size<w3.heap.size:=oM)
 try (have:w1.heap.size<w3.heap.size+1:=oM)
 try (have:w1.heap.size<w3.heap.size+1+1:=oM)
 try (have:w1.heap.size+1<w3.heap.size:=oM)
 try (have:w1.heap.size+1<w3.heap.size+1:=oM)
 try (have:w1.heap.size+1<w3.heap.size+1+1:=oM)
 try (have e3_0_0_0:=hb3.cl w.heap.size 0;simp [go_sem, *] at e3_0_0_0)
 try (have f3_0_0_0:=hb3.fz w.heap.size 0;simp [go_sem, *] at f3_0_0_0)
 try (have e3_0_0_1:=hb3.cl w.heap.size 1;simp [go_sem, *] at e3_0_0_1)
 try (have f3_0_0_1:=hb3.fz w.heap.size 1;simp [go_sem, *] at f3_0_0_1)
 try (have e3_1_0_0:=hb3.cl w1.heap.size 0;simp [go_sem, *] at e3_1_0_0)
 try (have f3_1_0_0:=hb3.fz w1.heap.size 0;simp [go_sem, *] at f3_1_0_0)
 try (have e3_1_0_1:=hb3.cl w1.heap.size 1;simp [go_sem, *] at e3_1_0_1)
 try (have f3_1_0_1:=hb3.fz w1.heap.size 1;simp [go_sem, *] at f3_1_0_1)
 try (have e3_1_0_2:=hb3.cl w1.heap.size 2;simp [go_sem, *] at e3_1_0_2)
 try (have f3_1_0_2:=hb3.fz w1.heap.size 2;simp [go_sem, *] at f3_1_0_2)
 try (have e3_1_0_3:=hb3.cl w1.heap.size 3;simp [go_sem, *] at e3_1_0_3)
 try (have f3_1_0_3:=hb3.fz w1.heap.size 3;simp [go_sem, *] at f3_1_0_3)
 try (have e3_1_1_0:=hb3.cl (w1.heap.size+1) 0;simp [go_sem, *] at e3_1_1_0)
 try (have f3_1_1_0:=hb3.fz (w1.heap.size+1) 0;simp [go_sem, *] at f3_1_1_0)
 try (have e3_1_1_1:=hb3.cl (w1.heap.size+1) 1;simp [go_sem, *] at e3_1_1_1)
 try (have f3_1_1_1:=hb3.fz (w1.heap.size+1) 1;simp [go_sem, *] at f3_1_1_1)
 have HB3:=bel_step (w:=w) tq4 hb3
 clear hb3
 try simp at hgg
 go_wp2_with fail
 try simp only [Exit.inBlock,Exit.then]
 refine bodyPost_ret (v:=.tuple #[.slice (some ⟨g,0,none⟩) 1 cc,.agg #[.int .i64 0,.int .i64 0]]) (by simp [results,results14,go_sem, *]) rfl ⟨g,cc,rfl,by repeat' (first|refine Hit.set ?_ (by show w.heap.size≠g;omega) _|exact hH),by omega,tq4⟩
theorem ix_2(w:World): Calls prog 112 #[.string ⟨#[118,97,108,117,101,115,32,48,32,57,32,36,91,48,93]⟩,.string ⟨#[32]⟩] w fun e w'=>e=.returned (.int .i64 6)∧w=w':=by
 have h:=Tryz.stringslite_Index_one (⟨#[118,97,108,117,101,115,32,48,32,57,32,36,91,48,93]⟩:ByteArray) 32 w
 rw [show Lib.indexByte (⟨#[118,97,108,117,101,115,32,48,32,57,32,36,91,48,93]⟩:ByteArray).data.toList 32=6 by decide] at h
 exact h.mono fun e w' ⟨a,b⟩ =>⟨a,b.symm⟩
theorem lcut_2(w:World): Calls prog 54 #[.string ⟨#[118,97,108,117,101,115,32,48,32,57,32,36,91,48,93]⟩,.string ⟨#[32]⟩] w fun e w'=>e=.returned (.tuple #[.string ⟨#[118,97,108,117,101,115]⟩,.string ⟨#[48,32,57,32,36,91,48,93]⟩,.bool true])∧Below w.heap.size w w':=by
 go_enter func54,ntmps54
 go_wp2_with (first|(go_at_call 112;refine (ix_2 _).mono ?_;rintro e w9 ⟨rfl,rfl⟩))
 go_region
 go_wp2_with fail
 try simp only [Exit.inBlock,Exit.then]
 refine bodyPost_ret (v:=.tuple #[.string ⟨#[118,97,108,117,101,115]⟩,.string ⟨#[48,32,57,32,36,91,48,93]⟩,.bool true]) (by simp [results,results54,go_sem];first|done|decide) rfl ⟨rfl,tq4⟩
theorem scut_2(w:World): Calls prog 30 #[.string ⟨#[118,97,108,117,101,115,32,48,32,57,32,36,91,48,93]⟩,.string ⟨#[32]⟩] w fun e w'=>e=.returned (.tuple #[.string ⟨#[118,97,108,117,101,115]⟩,.string ⟨#[48,32,57,32,36,91,48,93]⟩,.bool true])∧Below w.heap.size w w':=by
 go_enter func30,ntmps30
 go_wp2_with fail
 refine (lcut_2 _).mono ?_;rintro e w1 ⟨rfl,hb1⟩
 go_wp2_with fail
 try simp only [Exit.inBlock,Exit.then]
 refine bodyPost_ret (v:=.tuple #[.string ⟨#[118,97,108,117,101,115]⟩,.string ⟨#[48,32,57,32,36,91,48,93]⟩,.bool true]) (by simp [results,results30,go_sem];first|done|decide) rfl ⟨rfl,hb1⟩
theorem ix_5(w:World): Calls prog 112 #[.string ⟨#[48,32,57,32,36,91,48,93]⟩,.string ⟨#[32]⟩] w fun e w'=>e=.returned (.int .i64 1)∧w=w':=by
 have h:=Tryz.stringslite_Index_one (⟨#[48,32,57,32,36,91,48,93]⟩:ByteArray) 32 w
 rw [show Lib.indexByte (⟨#[48,32,57,32,36,91,48,93]⟩:ByteArray).data.toList 32=1 by decide] at h
 exact h.mono fun e w' ⟨a,b⟩ =>⟨a,b.symm⟩
theorem lcut_5(w:World): Calls prog 54 #[.string ⟨#[48,32,57,32,36,91,48,93]⟩,.string ⟨#[32]⟩] w fun e w'=>e=.returned (.tuple #[.string ⟨#[48]⟩,.string ⟨#[57,32,36,91,48,93]⟩,.bool true])∧Below w.heap.size w w':=by
 go_enter func54,ntmps54
 go_wp2_with (first|(go_at_call 112;refine (ix_5 _).mono ?_;rintro e w9 ⟨rfl,rfl⟩))
 go_region
 go_wp2_with fail
 try simp only [Exit.inBlock,Exit.then]
 refine bodyPost_ret (v:=.tuple #[.string ⟨#[48]⟩,.string ⟨#[57,32,36,91,48,93]⟩,.bool true]) (by simp [results,results54,go_sem];first|done|decide) rfl ⟨rfl,tq4⟩
theorem scut_5(w:World): Calls prog 30 #[.string ⟨#[48,32,57,32,36,91,48,93]⟩,.string ⟨#[32]⟩] w fun e w'=>e=.returned (.tuple #[.string ⟨#[48]⟩,.string ⟨#[57,32,36,91,48,93]⟩,.bool true])∧Below w.heap.size w w':=by
 go_enter func30,ntmps30
 go_wp2_with fail
 refine (lcut_5 _).mono ?_;rintro e w1 ⟨rfl,hb1⟩
 go_wp2_with fail
 try simp only [Exit.inBlock,Exit.then]
 refine bodyPost_ret (v:=.tuple #[.string ⟨#[48]⟩,.string ⟨#[57,32,36,91,48,93]⟩,.bool true]) (by simp [results,results30,go_sem];first|done|decide) rfl ⟨rfl,hb1⟩
theorem ix_7(w:World): Calls prog 112 #[.string ⟨#[57,32,36,91,48,93]⟩,.string ⟨#[32]⟩] w fun e w'=>e=.returned (.int .i64 1)∧w=w':=by
 have h:=Tryz.stringslite_Index_one (⟨#[57,32,36,91,48,93]⟩:ByteArray) 32 w
 rw [show Lib.indexByte (⟨#[57,32,36,91,48,93]⟩:ByteArray).data.toList 32=1 by decide] at h
 exact h.mono fun e w' ⟨a,b⟩ =>⟨a,b.symm⟩
theorem lcut_7(w:World): Calls prog 54 #[.string ⟨#[57,32,36,91,48,93]⟩,.string ⟨#[32]⟩] w fun e w'=>e=.returned (.tuple #[.string ⟨#[57]⟩,.string ⟨#[36,91,48,93]⟩,.bool true])∧Below w.heap.size w w':=by
 go_enter func54,ntmps54
 go_wp2_with (first|(go_at_call 112;refine (ix_7 _).mono ?_;rintro e w9 ⟨rfl,rfl⟩))
 go_region
 go_wp2_with fail
 try simp only [Exit.inBlock,Exit.then]
 refine bodyPost_ret (v:=.tuple #[.string ⟨#[57]⟩,.string ⟨#[36,91,48,93]⟩,.bool true]) (by simp [results,results54,go_sem];first|done|decide) rfl ⟨rfl,tq4⟩
theorem scut_7(w:World): Calls prog 30 #[.string ⟨#[57,32,36,91,48,93]⟩,.string ⟨#[32]⟩] w fun e w'=>e=.returned (.tuple #[.string ⟨#[57]⟩,.string ⟨#[36,91,48,93]⟩,.bool true])∧Below w.heap.size w w':=by
 go_enter func30,ntmps30
 go_wp2_with fail
 refine (lcut_7 _).mono ?_;rintro e w1 ⟨rfl,hb1⟩
 go_wp2_with fail
 try simp only [Exit.inBlock,Exit.then]
 refine bodyPost_ret (v:=.tuple #[.string ⟨#[57]⟩,.string ⟨#[36,91,48,93]⟩,.bool true]) (by simp [results,results30,go_sem];first|done|decide) rfl ⟨rfl,hb1⟩
theorem num_0(w:World): Calls prog 115 #[.string ⟨#[48]⟩] w fun e w'=>e=.returned (.tuple #[.int .i64 0,.bool true])∧Below w.heap.size w w':=by
 go_enter func115,ntmps115
 go_wp2_with (first|(refine wp_loop_unr 3 ?_;refine Unr.step ?_;intro U hU)|(refine Unr.step ?_;intro U hU))
 go_wp2_with fail
 try simp only [Exit.inBlock,Exit.then]
 refine bodyPost_ret (v:=.tuple #[.int .i64 0,.bool true]) (by simp [results,results115,go_sem];first|done|decide) rfl ⟨rfl,tq4⟩
theorem num_9(w:World): Calls prog 115 #[.string ⟨#[57]⟩] w fun e w'=>e=.returned (.tuple #[.int .i64 9,.bool true])∧Below w.heap.size w w':=by
 go_enter func115,ntmps115
 go_wp2_with (first|(refine wp_loop_unr 3 ?_;refine Unr.step ?_;intro U hU)|(refine Unr.step ?_;intro U hU))
 go_wp2_with fail
 try simp only [Exit.inBlock,Exit.then]
 refine bodyPost_ret (v:=.tuple #[.int .i64 9,.bool true]) (by simp [results,results115,go_sem];first|done|decide) rfl ⟨rfl,tq4⟩
theorem ncut_5(w:World): Calls prog 120 #[.string ⟨#[48,32,57,32,36,91,48,93]⟩] w fun e w'=>e=.returned (.tuple #[.int .i64 0,.string ⟨#[57,32,36,91,48,93]⟩,.bool true])∧Below w.heap.size w w':=by
 go_enter func120,ntmps120
 go_wp2_with fail
 refine (scut_5 _).mono ?_;rintro e w1 ⟨rfl,hb1⟩
 have s1:=hb1.size;try simp at s1
 have HB1:=bel_step (w:=w) tq4 hb1
 clear hb1
 go_wp2_with fail
 refine (num_0 _).mono ?_;rintro e w2 ⟨rfl,hb2⟩
 have s2:=hb2.size;try simp at s2
 have HB2:=bel_step (w:=w) tq4 hb2
 clear hb2
 go_wp2_with fail
 try simp only [Exit.inBlock,Exit.then]
 refine bodyPost_ret (v:=.tuple #[.int .i64 0,.string ⟨#[57,32,36,91,48,93]⟩,.bool true]) (by simp [results,results120,go_sem];first|done|decide) rfl ⟨rfl,tq4⟩
theorem ncut_7(w:World): Calls prog 120 #[.string ⟨#[57,32,36,91,48,93]⟩] w fun e w'=>e=.returned (.tuple #[.int .i64 9,.string ⟨#[36,91,48,93]⟩,.bool true])∧Below w.heap.size w w':=by
 go_enter func120,ntmps120
 go_wp2_with fail
 refine (scut_7 _).mono ?_;rintro e w1 ⟨rfl,hb1⟩
 have s1:=hb1.size;try simp at s1
 have HB1:=bel_step (w:=w) tq4 hb1
 clear hb1
 go_wp2_with fail
 refine (num_9 _).mono ?_;rintro e w2 ⟨rfl,hb2⟩
 have s2:=hb2.size;try simp at s2
 have HB2:=bel_step (w:=w) tq4 hb2
 clear hb2
 go_wp2_with fail
 try simp only [Exit.inBlock,Exit.then]
 refine bodyPost_ret (v:=.tuple #[.int .i64 9,.string ⟨#[36,91,48,93]⟩,.bool true]) (by simp [results,results120,go_sem];first|done|decide) rfl ⟨rfl,tq4⟩
theorem itoa_1(w:World): Calls prog 116 #[.int .i64 1] w fun e w'=>e=.returned (.string ⟨#[49]⟩)∧w=w':=by
 have:=Tryz.strconv_Itoa_small 1 (by decide) w
 rw [show (Lib.decDigits 1).toArray=#[49] by (first|decide +kernel|(simp [Lib.decDigits];done)|(rw [Lib.decDigits];rfl))] at this
 exact this.mono fun e w' ⟨h1,h2⟩ =>⟨h1,h2.symm⟩
theorem ok_1(g c:Nat)(w:World)(hg:w.cell? ⟨g,0,none⟩=some (.int .i64 1)): Calls prog 113 #[.slice (some ⟨g,0,none⟩) 1 c] w fun e w'=>e=.returned (.string ⟨#[111,107,32,49]⟩)∧Below w.heap.size w w':=by
 go_enter func113,ntmps113
 go_wp2_with (first|(go_at_call 116;refine (itoa_1 _).mono ?_;rintro e w9 ⟨rfl,rfl⟩)|(refine wp_loop_unr 3 ?_;refine Unr.step ?_;intro U hU)|(refine Unr.step ?_;intro U hU))
 go_wp2_with fail
 try simp only [Exit.inBlock,Exit.then]
 refine bodyPost_ret (v:=.string ⟨#[111,107,32,49]⟩) (by simp [results,results113,go_sem];first|done|decide) rfl ⟨rfl,tq4⟩
end
end Go.Proofs.YtjcioljdlfdnbaaGreatDoor
