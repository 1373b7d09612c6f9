/- Part 28: lemmas for TopNumber; no conditions. -/
import Derived.Test.YtjcioljdlfdnbaaGreatDoorH27
set_option linter.unusedVariables false
set_option linter.unusedSimpArgs false
set_option maxRecDepth 100000
set_option maxHeartbeats 2000000
open Go.Proofs.Tryz
namespace Go.Proofs.YtjcioljdlfdnbaaGreatDoor
namespace Nn
open Go.RowKit
attribute [local go_sem] run_store_nilFunc run_store_func eqn_nil eqn_func
theorem ftold_held{w0 W:World}{a m p gp cp gs cs gl cl gi ci:Nat}{sg:Nat}{nn:Int}{g:Nat}{mo:Int}{c1:Nat}(h:Hid (∃nx,RF w0 a m p gp cp gs cs gl cl gi ci sg nn g mo (.slice (some ⟨g,0,none⟩) 1 c1) (.slice none 0 0) 0 nx 0 W)): (W).cell? ⟨a,0,none⟩=some (.pointer (some ⟨m,0,none⟩))∧(W).cell? ⟨m,2,none⟩=some (.slice (some ⟨gl,0,none⟩) 1 cl)∧(W).cell? ⟨g,0,none⟩=some (.int .i64 0)∧(W).cell? ⟨g,1,none⟩=some (.int .i64 0)∧(W).cell? ⟨g,4,none⟩=some (.pointer (some ⟨p,0,none⟩))∧(W).cell? ⟨g,5,none⟩=some (.int .i64 (-1))∧(W).cell? ⟨gl,0,none⟩=some (.int .i64 4)∧(W).cell? ⟨gl,1,none⟩=some (.string ⟨#[]⟩)∧(W).cell? ⟨gl,2,none⟩=some (.int .i64 0)∧(W).cell? ⟨gl,3,none⟩=some (.int .i64 0)∧(W).cell? ⟨gl,4,none⟩=some (.int .i64 0)∧(W).cell? ⟨gl,5,none⟩=some (.bool false)∧(W).cell? ⟨gl,6,none⟩=some (.bool false)∧(W).cell? ⟨gl,7,none⟩=some (.int .i64 0)∧Hid (∃nx,RF w0 a m p gp cp gs cs gl cl gi ci sg nn g mo (.slice (some ⟨g,0,none⟩) 1 c1) (.slice none 0 0) 0 nx 0 W):=by
 obtain ⟨nx,H⟩ :=h.out
 exact ⟨H.hW.c0,H.hM.c2,H.hF.c0,H.hF.c1,H.hF.c4,H.hF.c5,H.hC.l.c 0 _ rfl,H.hC.l.c 1 _ rfl,H.hC.l.c 2 _ rfl,H.hC.l.c 3 _ rfl,H.hC.l.c 4 _ rfl,H.hC.l.c 5 _ rfl,H.hC.l.c 6 _ rfl,H.hC.l.c 7 _ rfl,h⟩
theorem fx_below{w0 W:World}{a m p gp cp gs cs gl cl gi ci:Nat}{sg:Nat}{nn:Int}{g:Nat}{mo:Int}{c1:Nat}{W':World}(h:Hid (∃nx,RF w0 a m p gp cp gs cs gl cl gi ci sg nn g mo (.slice (some ⟨g,0,none⟩) 1 c1) (.slice none 0 0) 0 nx 0 W))(hb:Below W.heap.size W W'): Hid (∃nx,RF w0 a m p gp cp gs cs gl cl gi ci sg nn g mo (.slice (some ⟨g,0,none⟩) 1 c1) (.slice none 0 0) 0 nx 0 W'):=hid (h.out.elim fun nx H=>⟨nx,H.below hb⟩)
theorem fx_drew{w0 W:World}{a m p gp cp gs cs gl cl gi ci:Nat}{sg:Nat}{nn:Int}{g:Nat}{mo:Int}{c1:Nat}(h:Hid (∃nx,RF w0 a m p gp cp gs cs gl cl gi ci sg nn g mo (.slice (some ⟨g,0,none⟩) 1 c1) (.slice none 0 0) 0 nx 0 W)): Hid (∃nx,RF w0 a m p gp cp gs cs gl cl gi ci sg nn g mo (.slice (some ⟨g,0,none⟩) 1 c1) (.slice none 0 0) 0 nx 0 W.drew):=fx_below h qR.drew
theorem fx_alloc{w0 W:World}{a m p gp cp gs cs gl cl gi ci:Nat}{sg:Nat}{nn:Int}{g:Nat}{mo:Int}{c1:Nat}(h:Hid (∃nx,RF w0 a m p gp cp gs cs gl cl gi ci sg nn g mo (.slice (some ⟨g,0,none⟩) 1 c1) (.slice none 0 0) 0 nx 0 W))(o:Obj): Hid (∃nx,RF w0 a m p gp cp gs cs gl cl gi ci sg nn g mo (.slice (some ⟨g,0,none⟩) 1 c1) (.slice none 0 0) 0 nx 0 (W.alloc o)):=fx_below h (qR.alloc qL o)
theorem fx_setN{w0 W:World}{a m p gp cp gs cs gl cl gi ci:Nat}{sg:Nat}{nn:Int}{g:Nat}{mo:Int}{c1:Nat}(h:Hid (∃nx,RF w0 a m p gp cp gs cs gl cl gi ci sg nn g mo (.slice (some ⟨g,0,none⟩) 1 c1) (.slice none 0 0) 0 nx 0 W))(v:Value): Hid (∃nx,RF w0 a m p gp cp gs cs gl cl gi ci sg nn g mo (.slice (some ⟨g,0,none⟩) 1 c1) (.slice none 0 0) 0 nx 0 (W.setCell ⟨g,6,none⟩ v)):=hid (h.out.elim fun nx H=>⟨v,H.setN v⟩)
theorem Fi.setO{a p bE bW bA bB bC bO:Nat}{be:Bool}{i:Int}{ok:Bool}{W:World}(h:Fi a p bE bW bA bB bC bO be i ok W){x:Addr}(hx:∀y∈[bE,bW,bA,bB,bC,bO],x.block≠y)(v:Value): Fi a p bE bW bA bB bC bO be i ok (W.setCell x v):=⟨h.e.setO (hx _ sM) v,h.w.setO (hx _ sM) v,h.a.setO (hx _ sM) v,⟨h.al.b.setO (hx _ sM) v,h.al.c.setO (hx _ sM) v,h.al.o.setO (hx _ sM) v,h.al.bc,h.al.bo,h.al.co⟩,h.ne⟩
set_option maxHeartbeats 4000000 in
theorem rg7f{c:Code}(hc:regionOf (scopeBody f163) 7=some c)(w0:World)(a m p gp cp gs cs gl cl gi ci:Nat)(sg:Nat)(nn:Int)(g:Nat)(mo:Int)(c1:Nat)(x:Act)(hx:Fx [(0,.pointer (some ⟨a,0,none⟩)),(4,.pointer (some ⟨g,0,none⟩))] x)(W:World)(H:RF w0 a m p gp cp gs cs gl cl gi ci sg nn g mo (.slice (some ⟨g,0,none⟩) 1 c1) (.slice none 0 0) 0 .nilFunc 0 W)(K:Act→World→Prop)(Q:Exit→Act→World→Prop)(hk:∀x' W' bE bW bA bB bC bO,Fx [(0,.pointer (some ⟨a,0,none⟩)),(4,.pointer (some ⟨g,0,none⟩))] x'→RF w0 a m p gp cp gs cs gl cl gi ci sg nn g mo (.slice (some ⟨g,0,none⟩) 1 c1) (.slice none 0 0) 0 (.func (.func 332) #[] #[.pointer (some ⟨bE,0,none⟩),.pointer (some ⟨bW,0,none⟩),.pointer (some ⟨bA,0,none⟩)]) 0 W'→Fi a p bE bW bA bB bC bO false (-1) true W'→(∀y∈[bE,bW,bA,bB,bC,bO],W.heap.size≤y)→K x' W'): c.wp prog (Exit.then K Q) x W:=by
 injection (show some c=some _ from hc.symm.trans rfl) with hc
 subst hc
 have HK:=hid hk
 clear hk
 have kv0:=hx.at 0 (.pointer (some ⟨a,0,none⟩)) sM
 have kv4:=hx.at 4 (.pointer (some ⟨g,0,none⟩)) sM
 have e:=hx.lit177
 rw [e];simp only [kv0,kv4]
 clear hx kv0 kv4
 clear e
 have gen:=qG x
 obtain ⟨u,hu⟩ :=gen
 simp only [hu]
 clear hu x
 have alt0:=H.hW.lt
 have alt1:a<W.heap.size+1:=oM
 have alt2:a<W.heap.size+1+1:=oM
 have mlt0:=H.hM.lt
 have mlt1:m<W.heap.size+1:=oM
 have mlt2:m<W.heap.size+1+1:=oM
 have gllt0:=H.hC.l.lt
 have gllt1:gl<W.heap.size+1:=oM
 have gllt2:gl<W.heap.size+1+1:=oM
 have glt0:=H.hF.lt
 have glt1:g<W.heap.size+1:=oM
 have glt2:g<W.heap.size+1+1:=oM
 have HX0:Hid (∃nx,RF w0 a m p gp cp gs cs gl cl gi ci sg nn g mo (.slice (some ⟨g,0,none⟩) 1 c1) (.slice none 0 0) 0 nx 0 W):=hid ⟨_,H⟩
 go_region_held3 (fun w'=>(w').cell? ⟨a,0,none⟩=some (.pointer (some ⟨m,0,none⟩))∧(w').cell? ⟨m,2,none⟩=some (.slice (some ⟨gl,0,none⟩) 1 cl)∧(w').cell? ⟨g,0,none⟩=some (.int .i64 0)∧(w').cell? ⟨g,1,none⟩=some (.int .i64 0)∧(w').cell? ⟨g,4,none⟩=some (.pointer (some ⟨p,0,none⟩))∧(w').cell? ⟨g,5,none⟩=some (.int .i64 (-1))∧(w').cell? ⟨gl,0,none⟩=some (.int .i64 4)∧(w').cell? ⟨gl,1,none⟩=some (.string ⟨#[]⟩)∧(w').cell? ⟨gl,2,none⟩=some (.int .i64 0)∧(w').cell? ⟨gl,3,none⟩=some (.int .i64 0)∧(w').cell? ⟨gl,4,none⟩=some (.int .i64 0)∧(w').cell? ⟨gl,5,none⟩=some (.bool false)∧(w').cell? ⟨gl,6,none⟩=some (.bool false)∧(w').cell? ⟨gl,7,none⟩=some (.int .i64 0)∧Hid (∃nx,RF w0 a m p gp cp gs cs gl cl gi ci sg nn g mo (.slice (some ⟨g,0,none⟩) 1 c1) (.slice none 0 0) 0 nx 0 w')) (first|exact ftold_held (by repeat' (first|assumption|refine fx_drew ?_|refine fx_setN ?_ _|refine fx_alloc ?_ _))) (first|(go_at_call 225;refine (told_f a p _).mono ?_;rintro e w9 ⟨bE,bW,bA,bB,bC,bO,rfl,hA,hb,h1⟩;have HA:=hid hA;have HB9:=bel_step (w:=W) tq4 hb;have H2:=hid (H.below HB9.out);have HX2:Hid (∃nx,RF w0 a m p gp cp gs cs gl cl gi ci sg nn g mo (.slice (some ⟨g,0,none⟩) 1 c1) (.slice none 0 0) 0 nx 0 w9):=hid ⟨_,H2.out⟩;have y6:=H2.out.hF.c6;have z6:=H2.out.hF.z6;have g2:=H2.out.hF.lt;have g3:g<w9.heap.size+1:=oM;have QQ:=hid h1;clear hb hA h1))
 all_goals have hge:∀y∈[bE,bW,bA,bB,bC,bO],W.heap.size≤y:=fun y hy=>by have:=QQ.out y hy;simp at this;omega
 all_goals exact HK.out _ _ bE bW bA bB bC bO (Fx.cons (Fx.cons (Fx.mk0 _ rfl) 4 _ rfl) 0 _ rfl) (H2.out.setN _) (HA.out.setO (fun y hy=>by have:=hge y hy;show g≠y;omega) _) hge
set_option maxHeartbeats 4000000 in
theorem rg8t{c:Code}(hc:regionOf (scopeBody f163) 8=some c)(a g p bE bW bA:Nat)(ok:Bool)(pi:Int)(P:World→Prop)(x:Act)(hx:Fx [(0,.pointer (some ⟨a,0,none⟩)),(4,.pointer (some ⟨g,0,none⟩))] x)(W:World)(hcall:Calls prog 332 #[.pointer (some ⟨bE,0,none⟩),.pointer (some ⟨bW,0,none⟩),.pointer (some ⟨bA,0,none⟩)] W fun e w'=>e=.returned (.tuple #[.agg #[.pointer (some ⟨p,0,none⟩),.int .i64 pi],.bool ok])∧Hid (P w'))(fr6:W.cell? ⟨g,6,none⟩=some (.func (.func 332) #[] #[.pointer (some ⟨bE,0,none⟩),.pointer (some ⟨bW,0,none⟩),.pointer (some ⟨bA,0,none⟩)]))(glt:g<W.heap.size)(K:Act→World→Prop)(Q:Exit→Act→World→Prop)(hk:∀x' w3,Fx [(0,.pointer (some ⟨a,0,none⟩)),(4,.pointer (some ⟨g,0,none⟩)),(6,.pointer (some ⟨w3.heap.size,0,none⟩)),(7,.bool ok)] x'→P w3→K x' (w3.alloc (.cells #[.pointer (some ⟨p,0,none⟩),.int .i64 pi] 128))): c.wp prog (Exit.then K Q) x W:=by
 injection (show some c=some _ from hc.symm.trans rfl) with hc
 subst hc
 have HK:=hid hk
 clear hk
 have kv0:=hx.at 0 (.pointer (some ⟨a,0,none⟩)) sM
 have kv4:=hx.at 4 (.pointer (some ⟨g,0,none⟩)) sM
 have e:=hx.lit177
 rw [e];simp only [kv0,kv4]
 clear hx kv0 kv4
 clear e
 have gen:=qG x
 obtain ⟨u,hu⟩ :=gen
 simp only [hu]
 clear hu x
 have HC:=hid hcall
 clear hcall
 go_wp2_with fail
 refine HC.out.mono ?_;rintro e w3 ⟨rfl,hp⟩
 go_wp2_with fail
 exact HK.out _ w3 (Fx.cons (Fx.cons (Fx.cons (Fx.cons (Fx.mk0 _ rfl) 7 _ rfl) 6 _ rfl) 4 _ rfl) 0 _ rfl) hp.out
set_option maxHeartbeats 4000000 in
theorem rg8n{c:Code}(hc:regionOf (scopeBody f163) 8=some c)(a g p bE bW bA:Nat)(ok:Bool)(pi:Int)(P:World→Prop)(x:Act)(hx:Fx [(0,.pointer (some ⟨a,0,none⟩)),(4,.pointer (some ⟨g,0,none⟩))] x)(W:World)(hcall:Calls prog 332 #[.pointer (some ⟨bE,0,none⟩),.pointer (some ⟨bW,0,none⟩),.pointer (some ⟨bA,0,none⟩)] W fun e w'=>e=.returned (.tuple #[.agg #[.pointer none,.int .i64 pi],.bool ok])∧Hid (P w'))(fr6:W.cell? ⟨g,6,none⟩=some (.func (.func 332) #[] #[.pointer (some ⟨bE,0,none⟩),.pointer (some ⟨bW,0,none⟩),.pointer (some ⟨bA,0,none⟩)]))(glt:g<W.heap.size)(K:Act→World→Prop)(Q:Exit→Act→World→Prop)(hk:∀x' w3,Fx [(0,.pointer (some ⟨a,0,none⟩)),(4,.pointer (some ⟨g,0,none⟩)),(6,.pointer (some ⟨w3.heap.size,0,none⟩)),(7,.bool ok)] x'→P w3→K x' (w3.alloc (.cells #[.pointer none,.int .i64 pi] 128))): c.wp prog (Exit.then K Q) x W:=by
 injection (show some c=some _ from hc.symm.trans rfl) with hc
 subst hc
 have HK:=hid hk
 clear hk
 have kv0:=hx.at 0 (.pointer (some ⟨a,0,none⟩)) sM
 have kv4:=hx.at 4 (.pointer (some ⟨g,0,none⟩)) sM
 have e:=hx.lit177
 rw [e];simp only [kv0,kv4]
 clear hx kv0 kv4
 clear e
 have gen:=qG x
 obtain ⟨u,hu⟩ :=gen
 simp only [hu]
 clear hu x
 have HC:=hid hcall
 clear hcall
 go_wp2_with fail
 refine HC.out.mono ?_;rintro e w3 ⟨rfl,hp⟩
 go_wp2_with fail
 exact HK.out _ w3 (Fx.cons (Fx.cons (Fx.cons (Fx.cons (Fx.mk0 _ rfl) 7 _ rfl) 6 _ rfl) 4 _ rfl) 0 _ rfl) hp.out
theorem fchild_held{w0 W:World}{a m p gp cp gs cs gl cl gi ci:Nat}{sg:Nat}{nn:Int}{g:Nat}{mo:Int}{c1 e:Nat}(h:Hid (∃fd nx k,RF w0 a m p gp cp gs cs gl cl gi ci sg nn g mo (.slice (some ⟨g,0,none⟩) 1 c1) fd 0 nx k (W)∧e<(W).heap.size∧(W).cell? ⟨e,0,none⟩=some (.pointer (some ⟨p,0,none⟩))∧(W).cell? ⟨e,1,none⟩=some (.int .i64 1))): (W).cell? ⟨g,0,none⟩=some (.int .i64 0)∧(W).cell? ⟨g,1,none⟩=some (.int .i64 0)∧(W).cell? ⟨e,0,none⟩=some (.pointer (some ⟨p,0,none⟩))∧(W).cell? ⟨e,1,none⟩=some (.int .i64 1)∧Hid (∃fd nx k,RF w0 a m p gp cp gs cs gl cl gi ci sg nn g mo (.slice (some ⟨g,0,none⟩) 1 c1) fd 0 nx k (W)∧e<(W).heap.size∧(W).cell? ⟨e,0,none⟩=some (.pointer (some ⟨p,0,none⟩))∧(W).cell? ⟨e,1,none⟩=some (.int .i64 1)):=by
 obtain ⟨fd,nx,k,H,d0,d1,d2⟩ :=h.out
 exact ⟨H.hF.c0,H.hF.c1,d1,d2,h⟩
theorem fy_below{w0 W:World}{a m p gp cp gs cs gl cl gi ci:Nat}{sg:Nat}{nn:Int}{g:Nat}{mo:Int}{c1 e:Nat}{W':World}(h:Hid (∃fd nx k,RF w0 a m p gp cp gs cs gl cl gi ci sg nn g mo (.slice (some ⟨g,0,none⟩) 1 c1) fd 0 nx k (W)∧e<(W).heap.size∧(W).cell? ⟨e,0,none⟩=some (.pointer (some ⟨p,0,none⟩))∧(W).cell? ⟨e,1,none⟩=some (.int .i64 1)))(hb:Below W.heap.size W W'): Hid (∃fd nx k,RF w0 a m p gp cp gs cs gl cl gi ci sg nn g mo (.slice (some ⟨g,0,none⟩) 1 c1) fd 0 nx k (W')∧e<(W').heap.size∧(W').cell? ⟨e,0,none⟩=some (.pointer (some ⟨p,0,none⟩))∧(W').cell? ⟨e,1,none⟩=some (.int .i64 1)):=by
 obtain ⟨fd,nx,k,H,d0,d1,d2⟩ :=h.out
 exact hid ⟨fd,nx,k,H.below hb,Nat.lt_of_lt_of_le d0 hb.size,(hb.cell (p:=⟨e,0,none⟩) d0).trans d1,(hb.cell (p:=⟨e,1,none⟩) d0).trans d2⟩
theorem fy_drew{w0 W:World}{a m p gp cp gs cs gl cl gi ci:Nat}{sg:Nat}{nn:Int}{g:Nat}{mo:Int}{c1 e:Nat}(h:Hid (∃fd nx k,RF w0 a m p gp cp gs cs gl cl gi ci sg nn g mo (.slice (some ⟨g,0,none⟩) 1 c1) fd 0 nx k (W)∧e<(W).heap.size∧(W).cell? ⟨e,0,none⟩=some (.pointer (some ⟨p,0,none⟩))∧(W).cell? ⟨e,1,none⟩=some (.int .i64 1))): Hid (∃fd nx k,RF w0 a m p gp cp gs cs gl cl gi ci sg nn g mo (.slice (some ⟨g,0,none⟩) 1 c1) fd 0 nx k (W.drew)∧e<(W.drew).heap.size∧(W.drew).cell? ⟨e,0,none⟩=some (.pointer (some ⟨p,0,none⟩))∧(W.drew).cell? ⟨e,1,none⟩=some (.int .i64 1)):=fy_below h qR.drew
theorem fy_alloc{w0 W:World}{a m p gp cp gs cs gl cl gi ci:Nat}{sg:Nat}{nn:Int}{g:Nat}{mo:Int}{c1 e:Nat}(h:Hid (∃fd nx k,RF w0 a m p gp cp gs cs gl cl gi ci sg nn g mo (.slice (some ⟨g,0,none⟩) 1 c1) fd 0 nx k (W)∧e<(W).heap.size∧(W).cell? ⟨e,0,none⟩=some (.pointer (some ⟨p,0,none⟩))∧(W).cell? ⟨e,1,none⟩=some (.int .i64 1)))(o:Obj): Hid (∃fd nx k,RF w0 a m p gp cp gs cs gl cl gi ci sg nn g mo (.slice (some ⟨g,0,none⟩) 1 c1) fd 0 nx k ((W.alloc o))∧e<((W.alloc o)).heap.size∧((W.alloc o)).cell? ⟨e,0,none⟩=some (.pointer (some ⟨p,0,none⟩))∧((W.alloc o)).cell? ⟨e,1,none⟩=some (.int .i64 1)):=fy_below h (qR.alloc qL o)
set_option maxHeartbeats 4000000 in
theorem rg13f{c:Code}(hc:regionOf (scopeBody f163) 13=some c)(w0:World)(a m p gp cp gs cs gl cl gi ci:Nat)(sg:Nat)(nn:Int)(g:Nat)(mo:Int)(hmo:1≤mo)(c1 e:Nat)(nx0:Value)(x:Act)(hx:Fx [(0,.pointer (some ⟨a,0,none⟩)),(4,.pointer (some ⟨g,0,none⟩)),(6,.pointer (some ⟨e,0,none⟩))] x)(W:World)(H:RF w0 a m p gp cp gs cs gl cl gi ci sg nn g mo (.slice (some ⟨g,0,none⟩) 1 c1) (.slice none 0 0) 0 nx0 1 W)(elt:e<W.heap.size)(ec0:W.cell? ⟨e,0,none⟩=some (.pointer (some ⟨p,0,none⟩)))(ec1:W.cell? ⟨e,1,none⟩=some (.int .i64 1))(ea:e≠a)(K:Act→World→Prop)(Q:Exit→Act→World→Prop)(hk:∀x' W' gf cf,Fx [(0,.pointer (some ⟨a,0,none⟩)),(4,.pointer (some ⟨g,0,none⟩))] x'→RF w0 a m p gp cp gs cs gl cl gi ci sg nn g mo (.slice (some ⟨g,0,none⟩) 1 c1) (.slice (some ⟨gf,0,none⟩) 1 cf) 0 nx0 1 W'→Kx [a] W W'→Cw p gf W'→W.heap.size≤gf→K x' W'): c.wp prog (Exit.then K Q) x W:=by
 injection (show some c=some _ from hc.symm.trans rfl) with hc
 subst hc
 have HK:=hid hk
 clear hk
 have kv0:=hx.at 0 (.pointer (some ⟨a,0,none⟩)) sM
 have kv4:=hx.at 4 (.pointer (some ⟨g,0,none⟩)) sM
 have kv6:=hx.at 6 (.pointer (some ⟨e,0,none⟩)) sM
 have e:=hx.lit177
 rw [e];simp only [kv0,kv4,kv6]
 clear hx kv0 kv4 kv6
 clear e
 have gen:=qG x
 obtain ⟨u,hu⟩ :=gen
 simp only [hu]
 clear hu x
 have alt0:=H.hW.lt
 have:a<W.heap.size+1:=oM
 have:a<W.heap.size+1+1:=oM
 have mlt0:=H.hM.lt
 have:m<W.heap.size+1:=oM
 have:m<W.heap.size+1+1:=oM
 have gllt0:=H.hC.l.lt
 have:gl<W.heap.size+1:=oM
 have:gl<W.heap.size+1+1:=oM
 have glt0:=H.hF.lt
 have:g<W.heap.size+1:=oM
 have:g<W.heap.size+1+1:=oM
 have:e<W.heap.size+1:=oM
 have:e<W.heap.size+1+1:=oM
 have:Hid (∃fd nx k,RF w0 a m p gp cp gs cs gl cl gi ci sg nn g mo (.slice (some ⟨g,0,none⟩) 1 c1) fd 0 nx k (W)∧e<(W).heap.size∧(W).cell? ⟨e,0,none⟩=some (.pointer (some ⟨p,0,none⟩))∧(W).cell? ⟨e,1,none⟩=some (.int .i64 1)):=hid ⟨_,_,_,H,elt,ec0,ec1⟩
 go_region_held3 (fun w'=>(w').cell? ⟨g,0,none⟩=some (.int .i64 0)∧(w').cell? ⟨g,1,none⟩=some (.int .i64 0)∧(w').cell? ⟨e,0,none⟩=some (.pointer (some ⟨p,0,none⟩))∧(w').cell? ⟨e,1,none⟩=some (.int .i64 1)∧Hid (∃fd nx k,RF w0 a m p gp cp gs cs gl cl gi ci sg nn g mo (.slice (some ⟨g,0,none⟩) 1 c1) fd 0 nx k (w')∧e<(w').heap.size∧(w').cell? ⟨e,0,none⟩=some (.pointer (some ⟨p,0,none⟩))∧(w').cell? ⟨e,1,none⟩=some (.int .i64 1))) (first|exact fchild_held (by repeat' (first|assumption|refine fy_drew ?_|refine fy_alloc ?_ _))) (first|(go_at_call 226;refine (child_f gp cp gs cs gl cl gi ci p m a sg nn _ 1 mo hmo _ (H.hW.below tq4) (H.hM.below tq4) (H.hC.below tq4)).mono ?_;rintro en w9 ⟨rfl,gf,cf,w4,rfl,hb,hgf,hcf⟩;have HB9:=bel_step (w:=W) tq4 hb;have H4:=hid ((H.below HB9.out).setF (.slice (some ⟨gf,0,none⟩) 1 cf));have d4:=(HB9.out.cell (p:=⟨e,0,none⟩) elt).trans ec0;have d5:=(HB9.out.cell (p:=⟨e,1,none⟩) elt).trans ec1;have d6:=Nat.lt_of_lt_of_le elt HB9.out.size;have:Hid (∃fd nx k,RF w0 a m p gp cp gs cs gl cl gi ci sg nn g mo (.slice (some ⟨g,0,none⟩) 1 c1) fd 0 nx k ((w4.setCell ⟨a,5,none⟩ (.slice (some ⟨gf,0,none⟩) 1 cf)))∧e<((w4.setCell ⟨a,5,none⟩ (.slice (some ⟨gf,0,none⟩) 1 cf))).heap.size∧((w4.setCell ⟨a,5,none⟩ (.slice (some ⟨gf,0,none⟩) 1 cf))).cell? ⟨e,0,none⟩=some (.pointer (some ⟨p,0,none⟩))∧((w4.setCell ⟨a,5,none⟩ (.slice (some ⟨gf,0,none⟩) 1 cf))).cell? ⟨e,1,none⟩=some (.int .i64 1)):=hid ⟨_,_,_,H4.out,by rw [setCell_size];exact d6,(qO (by intro e;injection e with e1;omega)).trans d4,(qO (by intro e;injection e with e1;omega)).trans d5⟩;have HCW:=hid hcf;have QG:=hid hgf;clear hb d4 d5 d6 hcf hgf))
 all_goals have hgf:=QG.out
 all_goals simp at hgf
 all_goals exact HK.out _ _ gf cf (Fx.cons (Fx.cons (Fx.mk0 _ rfl) 4 _ rfl) 0 _ rfl) H4.out ((Kx.of HB9.out).set (.inl sM) _) (HCW.out.set (a:=⟨a,5,none⟩) (show a≠gf by omega) _) oM
end Nn
namespace Nn
open Go.RowKit
theorem Fi.kx{S:List Nat}{a p bE bW bA bB bC bO:Nat}{be:Bool}{i:Int}{ok:Bool}{W W':World}(h:Fi a p bE bW bA bB bC bO be i ok W)(k:Kx S W W')(hn:∀y∈[bE,bW,bA,bB,bC,bO],y ∉ S): Fi a p bE bW bA bB bC bO be i ok W':=⟨h.e.kx k (hn _ sM),h.w.kx k (hn _ sM),h.a.kx k (hn _ sM),h.al.kx k (hn _ sM) (hn _ sM) (hn _ sM),h.ne⟩
def Found (w0:World) (b:Bool) (p:Nat) (A:List Nat) (fd:Value) (W:World):Prop:=(b=false∧fd=.slice none 0 0)∨(b=true∧∃gf cf:Nat,fd=.slice (some ⟨gf,0,none⟩) 1 cf∧Cw p gf W∧w0.heap.size≤gf∧∀x∈A,gf≠x)
theorem Found.below{w0 W W':World}{b:Bool}{p:Nat}{A:List Nat}{fd:Value}(h:Found w0 b p A fd W)(hb:Below W.heap.size W W'): Found w0 b p A fd W':=by
 rcases h with h|⟨h1,gf,cf,h2,h3,h4,h5⟩
 ·exact .inl h
 ·exact .inr ⟨h1,gf,cf,h2,h3.below hb,h4,h5⟩
theorem Found.set{w0 W:World}{b:Bool}{p:Nat}{A:List Nat}{fd:Value}(h:Found w0 b p A fd W){a:Addr}(ha:a.block∈A)(v:Value): Found w0 b p A fd (W.setCell a v):=by
 rcases h with h|⟨h1,gf,cf,h2,h3,h4,h5⟩
 ·exact .inl h
 ·exact .inr ⟨h1,gf,cf,h2,h3.set (fun e=>h5 _ ha e.symm) v,h4,h5⟩
theorem Found.kx{w0 W W':World}{b:Bool}{p:Nat}{A S:List Nat}{fd:Value}(h:Found w0 b p A fd W)(k:Kx S W W')(hS:∀x∈S,x∈A): Found w0 b p A fd W':=by
 rcases h with h|⟨h1,gf,cf,h2,h3,h4,h5⟩
 ·exact .inl h
 ·exact .inr ⟨h1,gf,cf,h2,h3.of k.size (fun c=>k.cell (p:=⟨gf,c,none⟩) h3.lt (fun hm=>h5 _ (hS _ hm) rfl)) (fun c=>k.frozen (p:=⟨gf,c,none⟩) h3.lt (fun hm=>h5 _ (hS _ hm) rfl)),h4,h5⟩
theorem Found.sub{w0 W:World}{b:Bool}{p:Nat}{A A':List Nat}{fd:Value}(h:Found w0 b p A fd W)(hs:∀x∈A',x∈A): Found w0 b p A' fd W:=by
 rcases h with h|⟨h1,gf,cf,h2,h3,h4,h5⟩
 ·exact .inl h
 ·exact .inr ⟨h1,gf,cf,h2,h3,h4,fun x hx=>h5 x (hs x hx)⟩
def FtA (w0:World) (a m gp cp gs cs gl cl gi ci:Nat) (sg:Nat) (nn:Int) (mo:Int) (p:Nat) (W:World):Prop:=∃g c,RF w0 a m p gp cp gs cs gl cl gi ci sg nn g mo (.slice (some ⟨g,0,none⟩) 1 c) (.slice none 0 0) 0 .nilFunc 0 W
def FtB (w0:World) (a m gp cp gs cs gl cl gi ci:Nat) (sg:Nat) (nn:Int) (mo:Int) (p:Nat) (W:World):Prop:=∃g c fd bE bW bA bB bC bO,RF w0 a m p gp cp gs cs gl cl gi ci sg nn g mo (.slice (some ⟨g,0,none⟩) 1 c) fd 0 (.func (.func 332) #[] #[.pointer (some ⟨bE,0,none⟩),.pointer (some ⟨bW,0,none⟩),.pointer (some ⟨bA,0,none⟩)]) 1 W∧Fi a p bE bW bA bB bC bO true 1 true W∧((∀x∈[a,gp,gs,gl,gi,m],∀y∈[bE,bW,bA,bB,bC,bO],x<y)∧(∀y∈[bE,bW,bA,bB,bC,bO],g<y))∧Found w0 true p [a,g,bB,bC,bO,m] fd W
def FtC (w0:World) (a m gp cp gs cs gl cl gi ci:Nat) (sg:Nat) (nn:Int) (mo:Int) (p:Nat) (b:Bool) (W:World):Prop:=∃g c fd,RF w0 a m p gp cp gs cs gl cl gi ci sg nn g mo (.slice (some ⟨g,0,none⟩) 1 c) fd 1 .nilFunc 1 W∧Found w0 b p [a,g] fd W
def FtD (w0:World) (a m p:Nat) (mo:Int) (b:Bool) (W:World):Prop:=∃g c fd,Wk m (.slice (some ⟨g,0,none⟩) 0 c) fd mo a W∧Below w0.heap.size w0 W∧Found w0 b p [a] fd W
def RunF (w0:World) (m a p:Nat) (mo:Int) (b:Bool) (e:Ending) (w':World):Prop:=e=.returned (.tuple #[])∧Below w0.heap.size w0 w'∧∃st fd,Wk m st fd mo a w'∧Found w0 b p [] fd w'
set_option maxHeartbeats 4000000 in
theorem ftA_t(w0:World)(a m gp cp gs cs gl cl gi ci:Nat)(sg:Nat)(nn:Int)(mo:Int)(hmo:1≤mo)(p n L:Nat)(T V:ByteArray)(hD:Doc T V n L)(hX:Ix w0 p T n)(hV:0<V.size)(c0:Int)(hc:((V[0]'hV).toNat:Int)=c0)(hk:c0=45∨48≤c0∧c0≤57)(hsg:sg<6)(hh:Int)(hN:CmpQ w0 V nn hh)(hb:sgB sg hh=true)(J:Nat→Act→World→Prop)(Q:Exit→Act→World→Prop)(x:Act)(W:World)(hx:Ac a x)(hS:FtA w0 a m gp cp gs cs gl cl gi ci sg nn mo p W)(hJ:∀a' W',Ac a a'→FtB w0 a m gp cp gs cs gl cl gi ci sg nn mo p W'→J 0 a' W'): ∃rest,findLabel (scopeBody f163) 0=some (Code.skip.seq rest)∧rest.wp prog (jumps J Q) x W:=by
 obtain ⟨g,c,H⟩ :=hS
 have hx1:=hx.fx
 refine ⟨_,rfl,?_⟩
 repeat refine wp_seq ?_
 refine rg2 rfl a g c x hx1 W H.hW.c7 H.hW.c4 _ _ ?_
 intro x2 hx2
 refine wp_cond_false (hx2.ev 30 (.bool false) sM) ?_
 refine wp_skip ?_
 show Code.wp _ _ _ _ _
 repeat refine wp_seq ?_
 refine rg3 rfl a g c x2 (hx2.sub sM) W H.hW.c4 _ _ ?_
 intro x3 n3 hx3
 have H3:=hid (H.below (W':=W.drewN n3) (below_drewN' qR _))
 generalize W.drewN n3=W3 at H3  ⊢
 clear H hx2 hx hx1
 show Code.wp _ _ _ _ _
 repeat refine wp_seq ?_
 refine rg4 rfl a g m gs cs x3 hx3 W3 H3.out.hW.c0 H3.out.hM.c1 (H3.out.hC.s.c 0 _ rfl) (H3.out.hC.s.c 1 _ rfl) (H3.out.hC.s.c 2 _ rfl) H3.out.hF.c0 H3.out.hW.lt H3.out.hM.lt H3.out.hC.s.lt H3.out.hF.lt _ _ ?_
 intro x4 W4 hx4 b4 l4 d0 d2
 have H4:=hid (H3.out.below b4)
 have q4:w0.heap.size≤W3.heap.size:=H3.out.hb.size
 generalize W3.heap.size=D at hx4 l4 d0 d2 q4
 clear H3 hx3 b4
 show Code.wp _ _ _ _ _
 repeat refine wp_seq ?_
 refine rg5t rfl a g D x4 hx4 W4 H4.out.hF.c1 d2 _ _ ?_
 intro x5 n5 hx5
 have H5:=hid (H4.out.below (W':=W4.drewN n5) (below_drewN' qR _))
 generalize W4.drewN n5=W5 at H5  ⊢
 refine wp_cond_true (hx5.ev 62 (.bool true) sM) ?_
 clear H4 hx4 d0 d2 l4
 repeat refine wp_seq ?_
 refine rg6n rfl a g D x5 (hx5.sub sM) W5 H5.out.hF.c6 _ _ ?_
 intro x6 hx6
 refine wp_cond_true (hx6.ev 67 (.bool true) sM) ?_
 show Code.wp _ _ _ _ _
 repeat (first|refine wp_seq ?_|refine wp_block ?_)
 refine wp_then_self ?_
 refine rg7f rfl w0 a m p gp cp gs cs gl cl gi ci sg nn g mo c x6 (hx6.sub sM) W5 H5.out _ _ ?_
 intro x7 W7 bE bW bA bB bC bO hx7 H7 hA hge
 have l1:=H5.out.hW.lt;have l2:=H5.out.hM.lt;have l3:=H5.out.hF.lt;have l4':=H5.out.hC.p.lt;have l5:=H5.out.hC.s.lt;have l6:=H5.out.hC.l.lt;have l7:=H5.out.hC.i.lt;have l8:=H5.out.hb.size
 have hsep:∀x∈[a,gp,gs,gl,gi,m],∀y∈[bE,bW,bA,bB,bC,bO],x<y:=by
  intro x hx y hy
  have:=hge y hy
  simp only [List.mem_cons,List.not_mem_nil,or_false] at hx;rcases hx with rfl|rfl|rfl|rfl|rfl|rfl <;> omega
 have gsep:∀y∈[bE,bW,bA,bB,bC,bO],g<y:=fun y hy=>by have:=hge y hy;omega
 have wB:∀y∈[bE,bW,bA,bB,bC,bO],w0.heap.size≤y:=fun y hy=>by have:=hge y hy;omega
 have hms:a≠m∧gp≠m∧gs≠m∧gl≠m∧gi≠m:=⟨H5.out.am,H5.out.mgp,H5.out.mgs,H5.out.mgl,H5.out.mgi⟩
 clear H5 hx5 hx6 l1 l2 l3 l4' l5 l6 l7 l8 hge
 show Code.wp _ _ _ _ _
 repeat (first|refine wp_seq ?_|refine wp_block ?_)
 have hkS:∀j∈[bB,bC,bO,m],w0.heap.size≤j∧j≠a∧j≠g∧j≠gp∧j≠gs∧j≠gl∧j≠gi:=by
  have s6:=H7.mg;have s7:=H7.Bm
  obtain ⟨h1,h2,h3,h4,h5⟩ :=hms
  intro x hx
  have hx2:x=m∨x∈[bE,bW,bA,bB,bC,bO]:=by simp only [List.mem_cons,List.not_mem_nil,or_false] at hx ⊢;omega
  rcases hx2 with rfl|hx2
  ·omega
  ·have q1:=hsep a sM x hx2;have q2:=hsep gp sM x hx2;have q3:=hsep gs sM x hx2;have q4:=hsep gl sM x hx2;have q5:=hsep gi sM x hx2;have q6:=gsep x hx2;have q7:=wB x hx2
   omega
 refine rg8t rfl a g p bE bW bA true 1 (fun w3=>Fi a p bE bW bA bB bC bO true 1 true w3∧Mf gp cp gs cs gl cl gi ci p 1 m w3∧Kx [bB,bC,bO,m] W7 w3) x7 hx7 W7 ((fil_t p n L T V hD hV c0 hc hk gp cp gs cs gl cl gi ci m a bE bW bA bB bC bO sg hsg nn hh w0 hX hN _ _ mo wB H7.Bm hsep hms hb W7 H7.hb hA H7.hW H7.hM H7.hC).mono fun e w3 ⟨h1,h2⟩ =>⟨h1,hid h2⟩) H7.hF.c6 H7.hF.lt _ _ ?_
 intro x8 w3 hx8 ⟨hA8,hM8,hK8⟩
 have H8:=hid (H7.kx hK8 hM8 hkS)
 have HA8:=hid hA8
 clear H7 hx7 hA hA8 hM8 hK8
 have al:Below w3.heap.size w3 (w3.alloc (.cells #[.pointer (some ⟨p,0,none⟩),.int .i64 1] 128)):=qR.alloc qL _
 have ea:w3.heap.size≠a:=by have:=H8.out.hW.lt;omega
 have elt:w3.heap.size<(w3.alloc (.cells #[.pointer (some ⟨p,0,none⟩),.int .i64 1] 128)).heap.size:=by simp
 have e0:(w3.alloc (.cells #[.pointer (some ⟨p,0,none⟩),.int .i64 1] 128)).cell? ⟨w3.heap.size,0,none⟩=some (.pointer (some ⟨p,0,none⟩)):=by simp [go_sem]
 have e1:(w3.alloc (.cells #[.pointer (some ⟨p,0,none⟩),.int .i64 1] 128)).cell? ⟨w3.heap.size,1,none⟩=some (.int .i64 1):=by simp [go_sem]
 have H9:=hid (H8.out.below al)
 have HA9:=hid (HA8.out.below al)
 clear H8 HA8 al
 generalize w3.alloc (.cells #[.pointer (some ⟨p,0,none⟩),.int .i64 1] 128)=W9 at elt e0 e1 H9 HA9 ⊢
 generalize w3.heap.size=e at hx8 ea elt e0 e1
 show Code.wp _ _ _ _ _
 repeat (first|refine wp_seq ?_|refine wp_block ?_)
 refine rg11a rfl a g _ _ x8 hx8 W9 H9.out.hW.c7 _ _ ?_
 intro x9 hx9
 refine wp_cond_false (hx9.ev 109 (.bool false) sM) ?_
 repeat (first|refine wp_seq ?_|refine wp_block ?_)
 refine rg12t rfl a g (.pointer (some ⟨e,0,none⟩)) x9 (hx9.sub sM) W9 _ _ ?_
 intro x10 hx10
 refine wp_cond_true (hx10.ev 115 (.bool true) sM) ?_
 repeat (first|refine wp_seq ?_|refine wp_block ?_)
 refine wp_then_self ?_
 refine rg13f rfl w0 a m p gp cp gs cs gl cl gi ci sg nn g mo hmo c e _ x10 (hx10.sub sM) W9 H9.out elt e0 e1 ea _ _ ?_
 intro x11 W11 gf cf hx11 H11 hK11 hcw hgf
 show Code.wp prog (Code.goto 0) _ _ _
 refine wp_goto ?_
 show J 0 _ _
 have t1:=H9.out.hW.lt;have t2:=H9.out.hF.lt;have t3:=H9.out.hM.lt;have t4:=HA9.out.al.b.lt;have t5:=HA9.out.al.c.lt;have t6:=HA9.out.al.o.lt;have t7:=H9.out.hb.size
 refine hJ _ _ ⟨hx11.1,hx11.2.1,hx11.2.2 (0,_) sM⟩ ⟨g,c,_,bE,bW,bA,bB,bC,bO,H11,HA9.out.kx hK11 (fun y hy=>by have:=hsep a sM y hy;simp;omega),⟨hsep,gsep⟩,.inr ⟨rfl,gf,cf,rfl,hcw,by omega,?_⟩⟩
 intro x hx;simp only [List.mem_cons,List.not_mem_nil,or_false] at hx;rcases hx with rfl|rfl|rfl|rfl|rfl|rfl <;> omega
set_option maxHeartbeats 4000000 in
theorem ftA_f(w0:World)(a m gp cp gs cs gl cl gi ci:Nat)(sg:Nat)(nn:Int)(mo:Int)(hmo:1≤mo)(p n L:Nat)(T V:ByteArray)(hD:Doc T V n L)(hX:Ix w0 p T n)(hV:0<V.size)(c0:Int)(hc:((V[0]'hV).toNat:Int)=c0)(hk:c0=45∨48≤c0∧c0≤57)(hsg:sg<6)(hh:Int)(hN:CmpQ w0 V nn hh)(hb:sgB sg hh=false)(J:Nat→Act→World→Prop)(Q:Exit→Act→World→Prop)(x:Act)(W:World)(hx:Ac a x)(hS:FtA w0 a m gp cp gs cs gl cl gi ci sg nn mo p W)(hJ:∀a' W',Ac a a'→FtC w0 a m gp cp gs cs gl cl gi ci sg nn mo p false W'→J 0 a' W'): ∃rest,findLabel (scopeBody f163) 0=some (Code.skip.seq rest)∧rest.wp prog (jumps J Q) x W:=by
 obtain ⟨g,c,H⟩ :=hS
 have hx1:=hx.fx
 refine ⟨_,rfl,?_⟩
 repeat refine wp_seq ?_
 refine rg2 rfl a g c x hx1 W H.hW.c7 H.hW.c4 _ _ ?_
 intro x2 hx2
 refine wp_cond_false (hx2.ev 30 (.bool false) sM) ?_
 refine wp_skip ?_
 show Code.wp _ _ _ _ _
 repeat refine wp_seq ?_
 refine rg3 rfl a g c x2 (hx2.sub sM) W H.hW.c4 _ _ ?_
 intro x3 n3 hx3
 have H3:=hid (H.below (W':=W.drewN n3) (below_drewN' qR _))
 generalize W.drewN n3=W3 at H3  ⊢
 clear H hx2 hx hx1
 show Code.wp _ _ _ _ _
 repeat refine wp_seq ?_
 refine rg4 rfl a g m gs cs x3 hx3 W3 H3.out.hW.c0 H3.out.hM.c1 (H3.out.hC.s.c 0 _ rfl) (H3.out.hC.s.c 1 _ rfl) (H3.out.hC.s.c 2 _ rfl) H3.out.hF.c0 H3.out.hW.lt H3.out.hM.lt H3.out.hC.s.lt H3.out.hF.lt _ _ ?_
 intro x4 W4 hx4 b4 l4 d0 d2
 have H4:=hid (H3.out.below b4)
 have q4:w0.heap.size≤W3.heap.size:=H3.out.hb.size
 generalize W3.heap.size=D at hx4 l4 d0 d2 q4
 clear H3 hx3 b4
 show Code.wp _ _ _ _ _
 repeat refine wp_seq ?_
 refine rg5t rfl a g D x4 hx4 W4 H4.out.hF.c1 d2 _ _ ?_
 intro x5 n5 hx5
 have H5:=hid (H4.out.below (W':=W4.drewN n5) (below_drewN' qR _))
 generalize W4.drewN n5=W5 at H5  ⊢
 refine wp_cond_true (hx5.ev 62 (.bool true) sM) ?_
 clear H4 hx4 d0 d2 l4
 repeat refine wp_seq ?_
 refine rg6n rfl a g D x5 (hx5.sub sM) W5 H5.out.hF.c6 _ _ ?_
 intro x6 hx6
 refine wp_cond_true (hx6.ev 67 (.bool true) sM) ?_
 show Code.wp _ _ _ _ _
 repeat (first|refine wp_seq ?_|refine wp_block ?_)
 refine wp_then_self ?_
 refine rg7f rfl w0 a m p gp cp gs cs gl cl gi ci sg nn g mo c x6 (hx6.sub sM) W5 H5.out _ _ ?_
 intro x7 W7 bE bW bA bB bC bO hx7 H7 hA hge
 have l1:=H5.out.hW.lt;have l2:=H5.out.hM.lt;have l3:=H5.out.hF.lt;have l4':=H5.out.hC.p.lt;have l5:=H5.out.hC.s.lt;have l6:=H5.out.hC.l.lt;have l7:=H5.out.hC.i.lt;have l8:=H5.out.hb.size
 have hsep:∀x∈[a,gp,gs,gl,gi,m],∀y∈[bE,bW,bA,bB,bC,bO],x<y:=by
  intro x hx y hy
  have:=hge y hy
  simp only [List.mem_cons,List.not_mem_nil,or_false] at hx;rcases hx with rfl|rfl|rfl|rfl|rfl|rfl <;> omega
 have gsep:∀y∈[bE,bW,bA,bB,bC,bO],g<y:=fun y hy=>by have:=hge y hy;omega
 have wB:∀y∈[bE,bW,bA,bB,bC,bO],w0.heap.size≤y:=fun y hy=>by have:=hge y hy;omega
 have hms:a≠m∧gp≠m∧gs≠m∧gl≠m∧gi≠m:=⟨H5.out.am,H5.out.mgp,H5.out.mgs,H5.out.mgl,H5.out.mgi⟩
 clear H5 hx5 hx6 l1 l2 l3 l4' l5 l6 l7 l8 hge
 show Code.wp _ _ _ _ _
 repeat (first|refine wp_seq ?_|refine wp_block ?_)
 have hkS:∀j∈[bB,bC,bO,m],w0.heap.size≤j∧j≠a∧j≠g∧j≠gp∧j≠gs∧j≠gl∧j≠gi:=by
  have s6:=H7.mg;have s7:=H7.Bm
  obtain ⟨h1,h2,h3,h4,h5⟩ :=hms
  intro x hx
  have hx2:x=m∨x∈[bE,bW,bA,bB,bC,bO]:=by simp only [List.mem_cons,List.not_mem_nil,or_false] at hx ⊢;omega
  rcases hx2 with rfl|hx2
  ·omega
  ·have q1:=hsep a sM x hx2;have q2:=hsep gp sM x hx2;have q3:=hsep gs sM x hx2;have q4:=hsep gl sM x hx2;have q5:=hsep gi sM x hx2;have q6:=gsep x hx2;have q7:=wB x hx2
   omega
 refine rg8n rfl a g p bE bW bA false 0 (fun w3=>Mf gp cp gs cs gl cl gi ci p 1 m w3∧Kx [bB,bC,bO,m] W7 w3) x7 hx7 W7 ((fil_f p n L T V hD hV c0 hc hk gp cp gs cs gl cl gi ci m a bE bW bA bB bC bO sg hsg nn hh w0 hX hN _ _ mo wB H7.Bm hsep hms hb W7 H7.hb hA H7.hW H7.hM H7.hC).mono fun e w3 ⟨h1,h2⟩ =>⟨h1,hid h2⟩) H7.hF.c6 H7.hF.lt _ _ ?_
 intro x8 w3 hx8 ⟨hM8,hK8⟩
 have H8:=hid (H7.kx hK8 hM8 hkS)
 clear H7 hx7 hA hM8 hK8
 have al:Below w3.heap.size w3 (w3.alloc (.cells #[.pointer none,.int .i64 0] 128)):=qR.alloc qL _
 have H9:=hid (H8.out.below al)
 clear H8 al
 have F9:Found w0 false p [a,g] (.slice none 0 0) (w3.alloc (.cells #[.pointer none,.int .i64 0] 128)):=.inl ⟨rfl,rfl⟩
 generalize w3.alloc (.cells #[.pointer none,.int .i64 0] 128)=W9 at H9 F9 ⊢
 show Code.wp _ _ _ _ _
 repeat (first|refine wp_seq ?_|refine wp_block ?_)
 refine rg11 rfl a g (.bool false) x8 (hx8.sub sM) W9 H9.out.hW.c7 _ _ ?_
 intro x9 hx9
 refine wp_cond_false (hx9.ev 109 (.bool false) sM) ?_
 repeat (first|refine wp_seq ?_|refine wp_block ?_)
 refine rg12f rfl a g x9 (hx9.sub sM) W9 _ _ ?_
 intro x10 hx10
 refine wp_cond_false (hx10.ev 115 (.bool false) sM) ?_
 repeat (first|refine wp_seq ?_|refine wp_block ?_)
 refine rg9 rfl a g x10 (hx10.sub sM) W9 H9.out.hF.c1 H9.out.hF.z1 _ _ ?_
 intro x11 hx11
 show Code.wp _ _ _ _ _
 have H10:=hid (H9.out.setL 1)
 have F10:=F9.set (a:=⟨g,1,none⟩) sM (.int .i64 1)
 repeat (first|refine wp_seq ?_|refine wp_block ?_)
 refine wp_then_self ?_
 refine rg10 rfl a g _ x11 (hx11.sub sM) _ H10.out.hF.c6 H10.out.hF.z6 _ _ ?_
 intro x12 hx12
 have H11:=hid (H10.out.setN .nilFunc)
 have F11:=F10.set (a:=⟨g,6,none⟩) sM .nilFunc
 show Code.wp prog (Code.goto 0) _ _ _
 refine wp_goto ?_
 show J 0 _ _
 exact hJ _ _ ⟨hx12.1,hx12.2.1,hx12.2.2 (0,_) sM⟩ ⟨g,c,_,H11.out,F11.sub sM⟩
set_option maxHeartbeats 4000000 in
theorem ftB_s(w0:World)(a m gp cp gs cs gl cl gi ci:Nat)(sg:Nat)(nn:Int)(mo:Int)(p n L:Nat)(T V:ByteArray)(hD:Doc T V n L)(hX:Ix w0 p T n)(J:Nat→Act→World→Prop)(Q:Exit→Act→World→Prop)(x:Act)(W:World)(hx:Ac a x)(hS:FtB w0 a m gp cp gs cs gl cl gi ci sg nn mo p W)(hJ:∀a' W',Ac a a'→FtC w0 a m gp cp gs cs gl cl gi ci sg nn mo p true W'→J 0 a' W'): ∃rest,findLabel (scopeBody f163) 0=some (Code.skip.seq rest)∧rest.wp prog (jumps J Q) x W:=by
 obtain ⟨g,c,fd,bE,bW,bA,bB,bC,bO,H,hA0,⟨hsep,gsep⟩,hF0⟩ :=hS
 have hx1:=hx.fx
 refine ⟨_,rfl,?_⟩
 repeat refine wp_seq ?_
 refine rg2 rfl a g c x hx1 W H.hW.c7 H.hW.c4 _ _ ?_
 intro x2 hx2
 refine wp_cond_false (hx2.ev 30 (.bool false) sM) ?_
 refine wp_skip ?_
 show Code.wp _ _ _ _ _
 repeat refine wp_seq ?_
 refine rg3 rfl a g c x2 (hx2.sub sM) W H.hW.c4 _ _ ?_
 intro x3 n3 hx3
 have H3:=hid (H.below (W':=W.drewN n3) (below_drewN' qR _))
 have A3:=hid (hA0.below (W':=W.drewN n3) (below_drewN' qR _))
 have F3:=hid (hF0.below (W':=W.drewN n3) (below_drewN' qR _))
 generalize W.drewN n3=W3 at H3 A3 F3 ⊢
 clear H hx2 hx hx1 hA0 hF0
 show Code.wp _ _ _ _ _
 repeat refine wp_seq ?_
 refine rg4 rfl a g m gs cs x3 hx3 W3 H3.out.hW.c0 H3.out.hM.c1 (H3.out.hC.s.c 0 _ rfl) (H3.out.hC.s.c 1 _ rfl) (H3.out.hC.s.c 2 _ rfl) H3.out.hF.c0 H3.out.hW.lt H3.out.hM.lt H3.out.hC.s.lt H3.out.hF.lt _ _ ?_
 intro x4 W4 hx4 b4 l4 d0 d2
 have H4:=hid (H3.out.below b4)
 have A4:=hid (A3.out.below b4)
 have F4:=hid (F3.out.below b4)
 have q4:w0.heap.size≤W3.heap.size:=H3.out.hb.size
 generalize W3.heap.size=D at hx4 l4 d0 d2 q4
 clear H3 hx3 b4 A3 F3
 show Code.wp _ _ _ _ _
 repeat refine wp_seq ?_
 refine rg5t rfl a g D x4 hx4 W4 H4.out.hF.c1 d2 _ _ ?_
 intro x5 n5 hx5
 have H5:=hid (H4.out.below (W':=W4.drewN n5) (below_drewN' qR _))
 have A5:=hid (A4.out.below (W':=W4.drewN n5) (below_drewN' qR _))
 have F5:=hid (F4.out.below (W':=W4.drewN n5) (below_drewN' qR _))
 generalize W4.drewN n5=W5 at H5 A5 F5 ⊢
 refine wp_cond_true (hx5.ev 62 (.bool true) sM) ?_
 clear H4 hx4 d0 d2 l4 A4 F4
 repeat refine wp_seq ?_
 refine rg6f rfl a g D _ _ _ x5 (hx5.sub sM) W5 H5.out.hF.c6 _ _ ?_
 intro x6 hx6
 refine wp_cond_false (hx6.ev 67 (.bool false) sM) ?_
 refine wp_skip ?_
 show Code.wp _ _ _ _ _
 repeat refine wp_seq ?_
 have hkS:∀j∈[bE,bW,bA,bB,bC,bO],w0.heap.size≤j∧j≠a∧j≠g∧j≠gp∧j≠gs∧j≠gl∧j≠gi∧j≠m:=by
  have v1:=H5.out.Ba
  intro x hx2
  have q1:=hsep a sM x hx2;have q2:=hsep gp sM x hx2;have q3:=hsep gs sM x hx2;have q4:=hsep gl sM x hx2;have q5:=hsep gi sM x hx2;have q6:=gsep x hx2;have q7:=hsep m sM x hx2
  omega
 have hk3:∀j∈[bB,bC,bO],j∈[bE,bW,bA,bB,bC,bO]:=by intro x hx;simp only [List.mem_cons,List.not_mem_nil,or_false] at hx ⊢;omega
 refine rg8n rfl a g p bE bW bA false 0 (fun w3=>Kx [bB,bC,bO] W5 w3) x6 (hx6.sub sM) W5 ((fil_2 p n L T V hD a bE bW bA bB bC bO w0 hX (fun y hy=>(hkS y hy).1) W5 H5.out.hb A5.out).mono fun e w3 ⟨h1,h2⟩ =>⟨h1,hid h2⟩) H5.out.hF.c6 H5.out.hF.lt _ _ ?_
 intro x8 w3 hx8 hK8
 have H8:=hid (H5.out.kx hK8 (H5.out.hM.kx hK8 (fun hm=>(hkS m (hk3 m hm)).2.2.2.2.2.2.2 rfl)) (fun j hj=>by have:=hkS j (hk3 j hj);omega))
 have F8:=hid ((F5.out.kx hK8 sM).sub (A':=[a,g]) sM)
 clear H5 hx5 hx6 A5 F5 hK8 hkS hk3
 have al:Below w3.heap.size w3 (w3.alloc (.cells #[.pointer none,.int .i64 0] 128)):=qR.alloc qL _
 have H9:=hid (H8.out.below al)
 have F9:=F8.out.below al
 clear H8 F8 al
 generalize w3.alloc (.cells #[.pointer none,.int .i64 0] 128)=W9 at H9 F9 ⊢
 show Code.wp _ _ _ _ _
 repeat (first|refine wp_seq ?_|refine wp_block ?_)
 refine rg11 rfl a g (.bool false) x8 (hx8.sub sM) W9 H9.out.hW.c7 _ _ ?_
 intro x9 hx9
 refine wp_cond_false (hx9.ev 109 (.bool false) sM) ?_
 repeat (first|refine wp_seq ?_|refine wp_block ?_)
 refine rg12f rfl a g x9 (hx9.sub sM) W9 _ _ ?_
 intro x10 hx10
 refine wp_cond_false (hx10.ev 115 (.bool false) sM) ?_
 repeat (first|refine wp_seq ?_|refine wp_block ?_)
 refine rg9 rfl a g x10 (hx10.sub sM) W9 H9.out.hF.c1 H9.out.hF.z1 _ _ ?_
 intro x11 hx11
 show Code.wp _ _ _ _ _
 have H10:=hid (H9.out.setL 1)
 have F10:=F9.set (a:=⟨g,1,none⟩) sM (.int .i64 1)
 repeat (first|refine wp_seq ?_|refine wp_block ?_)
 refine wp_then_self ?_
 refine rg10 rfl a g _ x11 (hx11.sub sM) _ H10.out.hF.c6 H10.out.hF.z6 _ _ ?_
 intro x12 hx12
 have H11:=hid (H10.out.setN .nilFunc)
 have F11:=F10.set (a:=⟨g,6,none⟩) sM .nilFunc
 show Code.wp prog (Code.goto 0) _ _ _
 refine wp_goto ?_
 show J 0 _ _
 exact hJ _ _ ⟨hx12.1,hx12.2.1,hx12.2.2 (0,_) sM⟩ ⟨g,c,_,H11.out,F11.sub sM⟩
set_option maxHeartbeats 4000000 in
theorem ftC_s(w0:World)(a m gp cp gs cs gl cl gi ci:Nat)(sg:Nat)(nn:Int)(mo:Int)(p n L:Nat)(T V:ByteArray)(hD:Doc T V n L)(hX:Ix w0 p T n)(b:Bool)(J:Nat→Act→World→Prop)(Q:Exit→Act→World→Prop)(x:Act)(W:World)(hx:Ac a x)(hS:FtC w0 a m gp cp gs cs gl cl gi ci sg nn mo p b W)(hJ:∀a' W',Ac a a'→FtD w0 a m p mo b W'→J 0 a' W'): ∃rest,findLabel (scopeBody f163) 0=some (Code.skip.seq rest)∧rest.wp prog (jumps J Q) x W:=by
 obtain ⟨g,c,fd,H,hF0⟩ :=hS
 have hx1:=hx.fx
 refine ⟨_,rfl,?_⟩
 repeat refine wp_seq ?_
 refine rg2 rfl a g c x hx1 W H.hW.c7 H.hW.c4 _ _ ?_
 intro x2 hx2
 refine wp_cond_false (hx2.ev 30 (.bool false) sM) ?_
 refine wp_skip ?_
 show Code.wp _ _ _ _ _
 repeat refine wp_seq ?_
 refine rg3 rfl a g c x2 (hx2.sub sM) W H.hW.c4 _ _ ?_
 intro x3 n3 hx3
 have H3:=hid (H.below (W':=W.drewN n3) (below_drewN' qR _))
 have F3:=hid (hF0.below (W':=W.drewN n3) (below_drewN' qR _))
 generalize W.drewN n3=W3 at H3 F3 ⊢
 clear H hx2 hx hx1 hF0
 show Code.wp _ _ _ _ _
 repeat refine wp_seq ?_
 refine rg4 rfl a g m gs cs x3 hx3 W3 H3.out.hW.c0 H3.out.hM.c1 (H3.out.hC.s.c 0 _ rfl) (H3.out.hC.s.c 1 _ rfl) (H3.out.hC.s.c 2 _ rfl) H3.out.hF.c0 H3.out.hW.lt H3.out.hM.lt H3.out.hC.s.lt H3.out.hF.lt _ _ ?_
 intro x4 W4 hx4 b4 l4 d0 d2
 have H4:=hid (H3.out.below b4)
 have F4:=hid (F3.out.below b4)
 have q4:w0.heap.size≤W3.heap.size:=H3.out.hb.size
 generalize W3.heap.size=D at hx4 l4 d0 d2 q4
 clear H3 hx3 b4 F3
 show Code.wp _ _ _ _ _
 repeat refine wp_seq ?_
 refine rg5f rfl a g D x4 hx4 W4 H4.out.hF.c1 d2 _ _ ?_
 intro x5 n5 hx5
 have b5:Below W4.heap.size W4 (W4.drewN n5):=(below_drewN' qR _)
 have H5:=hid (H4.out.below b5)
 have F5:=hid (F4.out.below b5)
 have e0:=(b5.cell (p:=⟨D,0,none⟩) l4).trans d0
 have l5:D<(W4.drewN n5).heap.size:=Nat.lt_of_lt_of_le l4 b5.size
 generalize W4.drewN n5=W5 at H5 F5 e0 l5 ⊢
 refine wp_cond_false (hx5.ev 62 (.bool false) sM) ?_
 clear H4 F4 hx4 d0 d2 l4 b5
 refine wp_skip ?_
 show Code.wp _ _ _ _ _
 repeat (first|refine wp_seq ?_|refine wp_block ?_)
 refine rg14 rfl a g D p n L T V hD x5 (hx5.sub sM) W5 (hX.below H5.out.hb) H5.out.hF.c2 H5.out.hF.c3 H5.out.hF.c4 H5.out.hF.c5 H5.out.hF.lt _ _ ?_
 intro x6 W6 hx6 b6
 have H6:=hid (H5.out.below b6)
 have F6:=F5.out.below b6
 have e1:=(b6.cell (p:=⟨D,0,none⟩) l5).trans e0
 clear H5 F5 hx5 b6 e0 l5
 show Code.wp _ _ _ _ _
 repeat (first|refine wp_seq ?_|refine wp_block ?_)
 refine rg15 rfl a g D x6 hx6 W6 e1 _ _ ?_
 intro x7 hx7
 refine wp_cond_false (hx7.ev 144 (.bool false) sM) ?_
 refine wp_skip ?_
 show Code.wp _ _ _ _ _
 repeat (first|refine wp_seq ?_|refine wp_block ?_)
 refine rg19 rfl a g c x7 (hx7.sub sM) W6 H6.out.hW.c4 H6.out.hW.z4 _ _ ?_
 intro x8 n8 hx8
 show Code.wp _ _ _ _ _
 refine wp_goto ?_
 show J 0 _ _
 have B8:Below w0.heap.size w0 ((W6.setCell ⟨a,4,none⟩ (.slice (some ⟨g,0,none⟩) 0 c)).drewN n8):=below_drewN' (Below.setCell H6.out.hb H6.out.Ba _) n8
 have W8:=(H6.out.hW.setS (.slice (some ⟨g,0,none⟩) 0 c)).below (below_drewN' qR n8)
 have F8:=(F6.set (a:=⟨a,4,none⟩) sM (.slice (some ⟨g,0,none⟩) 0 c)).below (below_drewN' qR n8)
 exact hJ _ _ ⟨hx8.1,hx8.2.1,hx8.2.2 (0,_) sM⟩ ⟨g,c,fd,W8,B8,F8.sub sM⟩
attribute [local go_sem] run_store_nilFunc run_store_func eqn_nil eqn_func
set_option maxHeartbeats 4000000 in
theorem ftD_s(w0:World)(a m p:Nat)(mo:Int)(b:Bool)(J:Nat→Act→World→Prop)(Q:Exit→Act→World→Prop)(x:Act)(W:World)(hx:Ac a x)(hS:FtD w0 a m p mo b W)(hJ:∀ts W',RunF w0 m a p mo b (.returned (.tuple #[])) W'→Q .ret { tmps:=ts,defers:=[] } W'): ∃rest,findLabel (scopeBody f163) 0=some (Code.skip.seq rest)∧rest.wp prog (jumps J Q) x W:=by
 obtain ⟨u,rfl⟩ :=hx.lit
 clear hx
 refine ⟨_,rfl,?_⟩
 have HJ:=hid hJ
 clear hJ
 obtain ⟨g,c,fd,hW,hB,hF⟩ :=hS
 have hR:Hid (RunF w0 m a p mo b (.returned (.tuple #[])) W):=hid ⟨rfl,hB,_,fd,hW,hF.sub sM⟩
 have aw0:=hW.c0
 have aw1:=hW.c1
 have aw2:=hW.c2
 have aw3:=hW.c3
 have aw4:=hW.c4
 have aw5:=hW.c5
 have aw6:=hW.c6
 have aw7:=hW.c7
 have alt:=hW.lt
 clear hB hF hW
 go_wp2_with fail
 rw [jumps_ret]
 exact HJ.out _ _ hR.out
end Nn
namespace Nn
open Go.RowKit
theorem kinfo3: (prog.info? 3).map (fun i=>(i.zero,i.size,i.bytes))=some (some (.int .i64 0),1,8):=by kernel_rfl
theorem make_two(W:World): (Instr.makeSlice 31 (.int .i64 2) (.int .i64 2)).run prog W=.ok (.slice (some ⟨W.heap.size,0,none⟩) 2 2) (W.alloc (.cells #[.int .i64 0,.int .i64 0] 3)):=by
 obtain ⟨i,h1,h2,h3,h4⟩ :=info_parts kinfo3
 have:=run_make (P:=prog) W 31 3 i _ underlying31 h1 h2 .i64 .i64 2 2 oM oM (by rw [h4];omega) oM
 rw [h3] at this
 have e:madeCells (Value.int .i64 0).cells (Int.toNat 2 * 1)=#[.int .i64 0,.int .i64 0]:=by kernel_rfl
 rw [e] at this
 exact this
theorem fmeet_0(H Hb Ab:Nat)(w:World)(hl:H<w.heap.size)(hb:Hb<w.heap.size)(ha:Ab<w.heap.size)(ch:w.cell? ⟨Hb,0,none⟩=some (.slice (some ⟨H,0,none⟩) 2 2))(ca:w.cell? ⟨Ab,0,none⟩=some (.int .i64 0))(c0:w.cell? ⟨H,0,none⟩=some (.int .i64 (-1)))(z0:w.frozen? ⟨H,0,none⟩=false): Calls prog 222 #[.int .i64 0,.int .i64 0,.pointer (some ⟨Hb,0,none⟩),.pointer (some ⟨Ab,0,none⟩)] w fun e w'=>e=.returned (.tuple #[])∧Below w.heap.size (w.setCell ⟨H,0,none⟩ (.int .i64 0)) w':=by
 go_enter func222,ntmps222
 go_wp2_with (first|(go_at_call 159;refine (need_t _).mono ?_;rintro e w9 ⟨rfl,rfl⟩))
 refine bodyPost_end (v:=.tuple #[]) (by simp [results,results222,go_sem]) rfl ⟨rfl,tq4⟩
theorem fmeet_1(H Hb Ab:Nat)(w:World)(hl:H<w.heap.size)(hb:Hb<w.heap.size)(ha:Ab<w.heap.size)(ch:w.cell? ⟨Hb,0,none⟩=some (.slice (some ⟨H,0,none⟩) 2 2))(ca:w.cell? ⟨Ab,0,none⟩=some (.int .i64 0))(c0:w.cell? ⟨H,1,none⟩=some (.int .i64 (-1)))(z0:w.frozen? ⟨H,1,none⟩=false): Calls prog 222 #[.int .i64 1,.int .i64 1,.pointer (some ⟨Hb,0,none⟩),.pointer (some ⟨Ab,0,none⟩)] w fun e w'=>e=.returned (.tuple #[])∧Below w.heap.size (w.setCell ⟨H,1,none⟩ (.int .i64 1)) w':=by
 go_enter func222,ntmps222
 go_wp2_with (first|(go_at_call 159;refine (need_t _).mono ?_;rintro e w9 ⟨rfl,rfl⟩))
 refine bodyPost_end (v:=.tuple #[]) (by simp [results,results222,go_sem]) rfl ⟨rfl,tq4⟩
structure Iv (w0:World) (gp cp gs cs gl cl gi ci:Nat) (sg n:Int) (B H:Nat) (x0 x1:Int) (W:World):Prop where
 bel:Below w0.heap.size w0 W
 c:Bk B [.slice (some ⟨gp,0,none⟩) 2 cp,.slice (some ⟨gs,0,none⟩) 1 cs,.slice (some ⟨gl,0,none⟩) 1 cl,.slice (some ⟨gi,0,none⟩) 2 ci] W
 a:Bk (B+1) [.int .i64 0] W
 h:Bk H [.int .i64 x0,.int .i64 x1] W
 hb:Bk (H+1) [.slice (some ⟨H,0,none⟩) 2 2] W
 d:Cdf gp gs gl gi sg n W
 n1:w0.heap.size≤B
 n2:B+1<H
 n3:gp<w0.heap.size∧gs<w0.heap.size∧gl<w0.heap.size∧gi<w0.heap.size
theorem Iv.below{w0:World}{gp cp gs cs gl cl gi ci:Nat}{sg n:Int}{B H:Nat}{x0 x1:Int}{W W':World}(h:Iv w0 gp cp gs cs gl cl gi ci sg n B H x0 x1 W)(hb:Below W.heap.size W W'): Iv w0 gp cp gs cs gl cl gi ci sg n B H x0 x1 W':=⟨h.bel.trans (hb.mono h.bel.size),h.c.below hb,h.a.below hb,h.h.below hb,h.hb.below hb,h.d.below hb,h.n1,h.n2,h.n3⟩
theorem Iv.set0{w0:World}{gp cp gs cs gl cl gi ci:Nat}{sg n:Int}{B H:Nat}{x0 x1:Int}{W:World}(h:Iv w0 gp cp gs cs gl cl gi ci sg n B H x0 x1 W)(v:Int): Iv w0 gp cp gs cs gl cl gi ci sg n B H v x1 (W.setCell ⟨H,0,none⟩ (.int .i64 v)):=by
 have a:=h.n1;have b:=h.n2;obtain ⟨c1,c2,c3,c4⟩ :=h.n3
 exact ⟨h.bel.setCell (by show w0.heap.size≤H;omega) _,h.c.setO (by show H≠B;omega) _,h.a.setO (by show H≠B+1;omega) _,h.h.setS 0 sM _,h.hb.setO (by show H≠H+1;omega) _,h.d.setO (by show H≠gp;omega) (by show H≠gs;omega) (by show H≠gl;omega) (by show H≠gi;omega) _,a,b,h.n3⟩
theorem Iv.set1{w0:World}{gp cp gs cs gl cl gi ci:Nat}{sg n:Int}{B H:Nat}{x0 x1:Int}{W:World}(h:Iv w0 gp cp gs cs gl cl gi ci sg n B H x0 x1 W)(v:Int): Iv w0 gp cp gs cs gl cl gi ci sg n B H x0 v (W.setCell ⟨H,1,none⟩ (.int .i64 v)):=by
 have a:=h.n1;have b:=h.n2;obtain ⟨c1,c2,c3,c4⟩ :=h.n3
 exact ⟨h.bel.setCell (by show w0.heap.size≤H;omega) _,h.c.setO (by show H≠B;omega) _,h.a.setO (by show H≠B+1;omega) _,h.h.setS 1 sM _,h.hb.setO (by show H≠H+1;omega) _,h.d.setO (by show H≠gp;omega) (by show H≠gs;omega) (by show H≠gl;omega) (by show H≠gi;omega) _,a,b,h.n3⟩
theorem fins(gp cp gs cs gl cl gi ci:Nat)(k0:2≤cp)(k1:1≤cs)(k2:1≤cl)(k3:2≤ci)(sg n:Int)(g0:0≤sg)(g5:sg≤5)(w:World)(h:Cdf gp gs gl gi sg n w): Calls prog 162 #[.agg #[.slice (some ⟨gp,0,none⟩) 2 (cp:Nat),.slice (some ⟨gs,0,none⟩) 1 (cs:Nat),.slice (some ⟨gl,0,none⟩) 1 (cl:Nat),.slice (some ⟨gi,0,none⟩) 2 (ci:Nat)],.int .i64 0,.int .i64 0] w fun e w'=>e=.returned (.tuple #[])∧Below w.heap.size w w':=by
 have:∀(fn:Fn) (first cap:Array Value) (w:World),(Instr.makeFunc fn first cap).run prog w=.ok (.func fn first cap) w:=fun _ _ _ _=>rfl
 have hmk:=make_two
 go_enter func162,ntmps162
 go_wp2_with fail
 refine (fend gp cp gs cs gl cl gi ci k0 k1 k2 k3 sg n _ (h.below tq4)).mono ?_;rintro e w1 ⟨rfl,hb1⟩
 have s1:=hb1.size;try simp at s1
 have e0:=hb1.cl w.heap.size 0;simp [go_sem] at e0
 have e1:=hb1.cl w.heap.size 1;simp [go_sem] at e1
 have e2:=hb1.cl w.heap.size 2;simp [go_sem] at e2
 have e3:=hb1.cl w.heap.size 3;simp [go_sem] at e3
 have f0:=hb1.fz w.heap.size 0;simp [go_sem] at f0
 have f1:=hb1.fz w.heap.size 1;simp [go_sem] at f1
 have f2:=hb1.fz w.heap.size 2;simp [go_sem] at f2
 have f3:=hb1.fz w.heap.size 3;simp [go_sem] at f3
 have za:=hb1.fz (w.heap.size+1) 0;simp [go_sem] at za
 have hg4:gp<w.heap.size∧gs<w.heap.size∧gl<w.heap.size∧gi<w.heap.size:=⟨h.p.lt,h.s.lt,h.l.lt,h.i.lt⟩
 have a0:=hb1.cl (w.heap.size+1) 0;simp [go_sem] at a0
 have l0:w.heap.size<w1.heap.size:=oM
 have l1:w.heap.size+1<w1.heap.size:=oM
 have HB1:=bel_step (w:=w) tq4 hb1
 clear hb1
 have C1:=hid (h.below HB1.out)
 clear h
 go_wp2_with (first|(refine wp_loop_unr 4 ?_;refine Unr.step ?_;intro U hU)|(refine Unr.step ?_;intro U hU))
 have I0:Hid (Iv w gp cp gs cs gl cl gi ci sg n w.heap.size w1.heap.size (-1) (-1) ((w1.alloc (.cells #[.int .i64 (-1),.int .i64 (-1)] 3)).alloc (.cells #[.slice (some ⟨w1.heap.size,0,none⟩) 2 2] 31))):=by
  have hc:Bk w.heap.size [.slice (some ⟨gp,0,none⟩) 2 cp,.slice (some ⟨gs,0,none⟩) 1 cs,.slice (some ⟨gl,0,none⟩) 1 cl,.slice (some ⟨gi,0,none⟩) 2 ci] w1:=⟨l0,fun j v hj=>by rcases j with _|_|_|_|j <;> first|(simp at hj;done)|(simp at hj;subst hj;first|exact e0|exact e1|exact e2|exact e3),fun j hj=>by rcases j with _|_|_|_|j <;> first|(simp at hj;omega)|assumption⟩
  have ha:Bk (w.heap.size+1) [.int .i64 0] w1:=Bk.one l1 a0 za
  have b1:=(Below.refl w1.heap.size w1).alloc qL (.cells #[.int .i64 (-1),.int .i64 (-1)] 3)
  have b2:Below (w1.alloc (.cells #[.int .i64 (-1),.int .i64 (-1)] 3)).heap.size (w1.alloc (.cells #[.int .i64 (-1),.int .i64 (-1)] 3)) ((w1.alloc (.cells #[.int .i64 (-1),.int .i64 (-1)] 3)).alloc (.cells #[.slice (some ⟨w1.heap.size,0,none⟩) 2 2] 31)):=qR.alloc qL _
  have n4:=Bk.new (w1.alloc (.cells #[.int .i64 (-1),.int .i64 (-1)] 3)) #[.slice (some ⟨w1.heap.size,0,none⟩) 2 2] 31
  rw [World.size_alloc] at n4
  exact hid ⟨(HB1.out.trans (b1.mono oM)).trans (b2.mono (by simp;omega)),(hc.below b1).below b2,(ha.below b1).below b2,(Bk.new w1 #[.int .i64 (-1),.int .i64 (-1)] 3).below b2,n4,(C1.out.below b1).below b2,qL,by omega,hg4⟩
 generalize (w1.alloc (.cells #[.int .i64 (-1),.int .i64 (-1)] 3)).alloc (.cells #[.slice (some ⟨w1.heap.size,0,none⟩) 2 2] 31)=V at I0 ⊢
 generalize w1.heap.size=H at I0 ⊢
 generalize w.heap.size=B at I0 ⊢
 clear e0 e1 e2 e3 a0 l0 l1 C1 f0 f1 f2 f3 za
 refine (fmeet_0 H (H+1) (B+1) _ I0.out.h.lt I0.out.hb.lt I0.out.a.lt (I0.out.hb.c 0 _ rfl) (I0.out.a.c 0 _ rfl) (I0.out.h.c 0 _ rfl) (I0.out.h.z 0 sM)).mono ?_;rintro e w2 ⟨rfl,hb2⟩
 have I1:=hid ((I0.out.set0 0).below (by simpa [World.setCell] using hb2))
 clear hb2 I0
 have c0:=I1.out.c.c 0 _ rfl;have c1:=I1.out.c.c 1 _ rfl;have c2:=I1.out.c.c 2 _ rfl;have c3:=I1.out.c.c 3 _ rfl
 have a0:=I1.out.a.c 0 _ rfl
 have h0:=I1.out.h.c 0 _ rfl
 have b0:=I1.out.hb.c 0 _ rfl
 have lB:=I1.out.c.lt;have lA:=I1.out.a.lt;have lH:=I1.out.h.lt;have lHb:=I1.out.hb.lt;have lgi:=I1.out.d.i.lt
 have lB1:B<w2.heap.size+1:=oM
 have lA1:B+1<w2.heap.size+1:=oM
 have lH1:H<w2.heap.size+1:=oM
 have lHb1:H+1<w2.heap.size+1:=oM
 have lgi1:gi<w2.heap.size+1:=oM
 have i0:=I1.out.d.i.c 0 _ rfl;have i1:=I1.out.d.i.c 1 _ rfl;have i2:=I1.out.d.i.c 2 _ rfl;have i3:=I1.out.d.i.c 3 _ rfl;have i4:=I1.out.d.i.c 4 _ rfl;have i5:=I1.out.d.i.c 5 _ rfl;have i6:=I1.out.d.i.c 6 _ rfl
 go_wp2_with (first|(refine wp_loop_unr 3 ?_;refine Unr.step ?_;intro U hU)|(refine Unr.step ?_;intro U hU))
 go_region
 all_goals go_wp2_with (first|(refine wp_loop_unr 3 ?_;refine Unr.step ?_;intro U hU)|(refine Unr.step ?_;intro U hU))
 refine (finstr gp cp gs cs gl cl gi ci k0 k1 k2 k3 sg n g0 g5 _ ((I1.out.below (qR.alloc qL _)).below qR.drew).d).mono ?_;rintro e w3 ⟨rfl,hb3⟩
 have I2:=hid (((I1.out.below (qR.alloc qL (.cells #[.int .i64 1,.int .i64 1,.int .i64 sg,.int .i64 2,.int .i64 n,.string ⟨#[]⟩,.int .i64 0] 290))).below qR.drew).below hb3)
 clear hb3 I1 c0 c1 c2 c3 a0 h0 b0 lB lA lH lHb lgi lB1 lA1 lH1 lHb1 lgi1 i0 i1 i2 i3 i4 i5 i6
 go_wp2_with (first|(refine wp_loop_unr 3 ?_;refine Unr.step ?_;intro U hU)|(refine Unr.step ?_;intro U hU))
 refine (fmeet_1 H (H+1) (B+1) _ I2.out.h.lt I2.out.hb.lt I2.out.a.lt (I2.out.hb.c 0 _ rfl) (I2.out.a.c 0 _ rfl) (I2.out.h.c 1 _ rfl) (I2.out.h.z 1 sM)).mono ?_;rintro e w4 ⟨rfl,hb4⟩
 have I3:=hid ((I2.out.set1 1).below (by simpa [World.setCell] using hb4))
 clear hb4 I2
 have a0:=I3.out.a.c 0 _ rfl
 have h1:=I3.out.h.c 1 _ rfl
 have b0:=I3.out.hb.c 0 _ rfl
 have lA:=I3.out.a.lt;have lH:=I3.out.h.lt;have lHb:=I3.out.hb.lt
 go_wp2_with (first|(go_at_call 159;refine (need_t _).mono ?_;rintro e w9 ⟨rfl,rfl⟩)|(refine wp_loop_unr 3 ?_;refine Unr.step ?_;intro U hU)|(refine Unr.step ?_;intro U hU))
 all_goals exact bodyPost_end (v:=.tuple #[]) (by simp [results,results162,go_sem]) rfl ⟨rfl,by first|exact I3.out.bel|exact I3.out.bel.drew⟩
end Nn
end Go.Proofs.YtjcioljdlfdnbaaGreatDoor
