/- Part 39: lemmas for TopNumber; no conditions. -/
import Derived.Test.YtjcioljdlfdnbaaGreatDoorH14
set_option linter.unusedVariables false
set_option linter.unusedSimpArgs false
set_option maxRecDepth 100000
set_option maxHeartbeats 2000000
open Go.Proofs.Tryz
namespace Go.Proofs.YtjcioljdlfdnbaaGreatDoor
namespace Nn
open Go.RowKit
def XQ (f:Nat) (r g:Nat) (t0 ts:List Tok) (en dp:Int) (i:Int) (la:Bool) (lk ln:Int) (ra:Bool) (rk rn:Int):Prop:=∀w:World,Rt w r g t0 en dp→Calls prog f #[.pointer (some ⟨r,0,none⟩)] w fun e w'=>e=.returned (.agg #[.int .i64 4,.slice none 0 0,.bool false,.slice none 0 0,.int .i64 i,.bool la,.int .i64 lk,.int .i64 ln,.string ⟨#[]⟩,.bool false,.slice none 0 0,.bool ra,.int .i64 rk,.int .i64 rn,.string ⟨#[]⟩,.bool false,.slice none 0 0])∧QF r w w'∧Rt w' r g ts en dp
theorem one_x{r g:Nat}{en dp:Int}{t:Tok}{t0 ts:List Tok}(i:Int)(la:Bool)(lk ln:Int)(ra:Bool)(rk rn:Int)(h1:Is t ⟨#[33]⟩ false)(h2:Is t ⟨#[40]⟩ false)(hc:XQ 387 r g (t::t0) ts en dp i la lk ln ra rk rn): XQ 374 r g (t::t0) ts en dp i la lk ln ra rk rn:=fun w h=>by
 have lt:=h.lt
 have glt:=h.glt
 have hI:=fun (W:World) (h:Rt W r g (t::t0) en dp)=>is_t (r:=r) (g:=g) (t:=t) (ts:=t0) (en:=en) (dp:=dp) _ false h1 W h
 have hJ:=fun (W:World) (h:Rt W r g (t::t0) en dp)=>is_t (r:=r) (g:=g) (t:=t) (ts:=t0) (en:=en) (dp:=dp) _ false h2 W h
 have C0:=hid ((CX.start h).add #[.int .i64 0,.slice none 0 0,.bool false,.slice none 0 0,.int .i64 0,.bool false,.int .i64 0,.int .i64 0,.string ⟨#[]⟩,.bool false,.slice none 0 0,.bool false,.int .i64 0,.int .i64 0,.string ⟨#[]⟩,.bool false,.slice none 0 0] 287)
 unfold XQ at hc
 clear h
 go_enter func374,ntmps374
 go_wp2_with fail
 generalize (w.alloc _)=W0 at C0 ⊢
 refine (hI _ C0.out.rt).mono ?_;rintro e w1 ⟨rfl,rfl⟩
 go_wp2_with fail
 refine (hJ _ C0.out.rt).mono ?_;rintro e w1 ⟨rfl,rfl⟩
 go_wp2_with fail
 refine (hc _ C0.out.rt).mono ?_;rintro e w1 ⟨rfl,hf,hn1⟩
 have C6:=hid (C0.out.step hf hn1)
 clear C0 hf hn1
 have x0:=C6.out.cell (b:=w.heap.size) (.head _) 0 _ rfl
 have x1:=C6.out.cell (b:=w.heap.size) (.head _) 1 _ rfl
 have x2:=C6.out.cell (b:=w.heap.size) (.head _) 2 _ rfl
 have x3:=C6.out.cell (b:=w.heap.size) (.head _) 3 _ rfl
 have x4:=C6.out.cell (b:=w.heap.size) (.head _) 4 _ rfl
 have x5:=C6.out.cell (b:=w.heap.size) (.head _) 5 _ rfl
 have x6:=C6.out.cell (b:=w.heap.size) (.head _) 6 _ rfl
 have x7:=C6.out.cell (b:=w.heap.size) (.head _) 7 _ rfl
 have x8:=C6.out.cell (b:=w.heap.size) (.head _) 8 _ rfl
 have x9:=C6.out.cell (b:=w.heap.size) (.head _) 9 _ rfl
 have x10:=C6.out.cell (b:=w.heap.size) (.head _) 10 _ rfl
 have x11:=C6.out.cell (b:=w.heap.size) (.head _) 11 _ rfl
 have x12:=C6.out.cell (b:=w.heap.size) (.head _) 12 _ rfl
 have x13:=C6.out.cell (b:=w.heap.size) (.head _) 13 _ rfl
 have x14:=C6.out.cell (b:=w.heap.size) (.head _) 14 _ rfl
 have x15:=C6.out.cell (b:=w.heap.size) (.head _) 15 _ rfl
 have x16:=C6.out.cell (b:=w.heap.size) (.head _) 16 _ rfl
 have y0:=C6.out.fz (b:=w.heap.size) (.head _) 0 sM
 have y1:=C6.out.fz (b:=w.heap.size) (.head _) 1 sM
 have y2:=C6.out.fz (b:=w.heap.size) (.head _) 2 sM
 have y3:=C6.out.fz (b:=w.heap.size) (.head _) 3 sM
 have y4:=C6.out.fz (b:=w.heap.size) (.head _) 4 sM
 have y5:=C6.out.fz (b:=w.heap.size) (.head _) 5 sM
 have y6:=C6.out.fz (b:=w.heap.size) (.head _) 6 sM
 have y7:=C6.out.fz (b:=w.heap.size) (.head _) 7 sM
 have y8:=C6.out.fz (b:=w.heap.size) (.head _) 8 sM
 have y9:=C6.out.fz (b:=w.heap.size) (.head _) 9 sM
 have y10:=C6.out.fz (b:=w.heap.size) (.head _) 10 sM
 have y11:=C6.out.fz (b:=w.heap.size) (.head _) 11 sM
 have y12:=C6.out.fz (b:=w.heap.size) (.head _) 12 sM
 have y13:=C6.out.fz (b:=w.heap.size) (.head _) 13 sM
 have y14:=C6.out.fz (b:=w.heap.size) (.head _) 14 sM
 have y15:=C6.out.fz (b:=w.heap.size) (.head _) 15 sM
 have y16:=C6.out.fz (b:=w.heap.size) (.head _) 16 sM
 have xl:=(C6.out.bs _ (.head _)).lt
 go_wp2_with fail
 refine bodyPost_ret (v:=.agg #[.int .i64 4,.slice none 0 0,.bool false,.slice none 0 0,.int .i64 i,.bool la,.int .i64 lk,.int .i64 ln,.string ⟨#[]⟩,.bool false,.slice none 0 0,.bool ra,.int .i64 rk,.int .i64 rn,.string ⟨#[]⟩,.bool false,.slice none 0 0]) (by simp [results,results374,go_sem, *]) rfl ⟨rfl,?_,?_⟩
 ·exact (by (repeat' (first|refine QF.new ?_ aM tq5 _|(refine QF.alloc ?_ aM _)|(refine QF.drewN ?_ aM _)|(refine QF.drew ?_ aM)|refine QF.set ?_ (by first|rfl|(simp;done)) _|assumption|exact CX.qf (Hid.out aM)|exact QF.refl _ _)))
 ·exact (by repeat' (first|refine Rt.setO ?_ tq5 tq5 _|refine Rt.below ?_ (qR.alloc qL _)|refine Rt.below ?_ (below_drewN' qR _)|refine Rt.below ?_ (Below.drew qR)|assumption|exact CX.rt (Hid.out aM)))
theorem Bk.row{b:Nat}{W:World}{old new:Array Value}{t:TypeId}(ho:W.heap[b]?=some (.cells old t (0,0))): Bk b new.toList (W.setRow b new):=by
 have h1:=setRow_heap W b old new t (0,0) ho
 refine ⟨by simp;exact (Array.getElem?_eq_some_iff.1 ho).1,fun i v hv=>?_,fun i hi=>?_⟩
 ·rw [cell_setRow_same W b i old new t (0,0) ho];simpa using hv
 ·simp [World.frozen?,h1]
theorem CX.row{w0 W:World}{r g:Nat}{ts:List Tok}{en dp:Int}{L:List (Nat × List Value)}(h:CX w0 r g ts en dp L W)(lt:r<w0.heap.size){b:Nat}{l:List Value}(hm:(b,l)∈L){old new:Array Value}{t:TypeId}(ho:W.heap[b]?=some (.cells old t (0,0))): CX w0 r g ts en dp [(b,new.toList)] (W.setRow b new):=by
 obtain ⟨n0,n1,n2⟩ :=h.ne _ hm
 simp only at n0 n1 n2
 have hb:∀k,k≠b→(W.setRow b new).heap[k]?=W.heap[k]?:=fun k hk=>setRow_other W b k new hk
 refine ⟨h.rt.of sM (fun c=>World.cell?_of_block (hb r n1)) (fun c=>World.frozen?_of_block (hb r n1)) (fun c=>World.cell?_of_block (hb g (fun e=>n2 e.symm))),?_,?_,?_⟩
 ·exact ⟨⟨h.qf.gr.os,h.qf.gr.tape,h.qf.gr.output,by simpa using h.qf.gr.size,fun i hi hne=>(hb i oM).trans (h.qf.gr.block i hi hne)⟩⟩
 ·intro q hq;simp at hq;subst hq;exact Bk.row ho
 ·intro q hq;simp at hq;subst hq;exact ⟨n0,n1,n2⟩
theorem QF.blk{r:Nat}{w w':World}(h:QF r w w'){b:Nat}(hb:b<w.heap.size)(hne:b≠r){o:Obj}(ho:w.heap[b]?=some o): w'.heap[b]?=some o:=(h.gr.block b hb (by intro e;injection e with e;exact hne e)).trans ho
theorem alloc_blk(w:World)(o':Obj){b:Nat}{o:Obj}(ho:w.heap[b]?=some o): (w.alloc o').heap[b]?=some o:=(((Below.refl w.heap.size w).alloc qL o').block b (Array.getElem?_eq_some_iff.1 ho).1).trans ho
theorem list_l{r g:Nat}{en dp:Int}{u:Tok}{t0 ts:List Tok}(i:Int)(la:Bool)(lk ln:Int)(ra:Bool)(rk rn:Int)(hu:Is u ⟨#[38,38]⟩ false)(hc:XQ 374 r g t0 (u::ts) en dp i la lk ln ra rk rn)(w:World)(h:Rt w r g t0 en dp): Calls prog 353 #[.pointer (some ⟨r,0,none⟩),.string ⟨#[38,38]⟩,.int .i64 1,.func (.func 374) #[.pointer (some ⟨r,0,none⟩)] #[]] w fun e w'=>e=.returned (.agg #[.int .i64 4,.slice none 0 0,.bool false,.slice none 0 0,.int .i64 i,.bool la,.int .i64 lk,.int .i64 ln,.string ⟨#[]⟩,.bool false,.slice none 0 0,.bool ra,.int .i64 rk,.int .i64 rn,.string ⟨#[]⟩,.bool false,.slice none 0 0])∧QF r w w'∧Rt w' r g (u::ts) en dp:=by
 have lt:=h.lt
 have glt:=h.glt
 have C0:=hid ((CX.start h).add #[.int .i64 0,.slice none 0 0,.bool false,.slice none 0 0,.int .i64 0,.bool false,.int .i64 0,.int .i64 0,.string ⟨#[]⟩,.bool false,.slice none 0 0,.bool false,.int .i64 0,.int .i64 0,.string ⟨#[]⟩,.bool false,.slice none 0 0] 287)
 have OB0:=hid (heap_alloc_new w (.cells #[.int .i64 0,.slice none 0 0,.bool false,.slice none 0 0,.int .i64 0,.bool false,.int .i64 0,.int .i64 0,.string ⟨#[]⟩,.bool false,.slice none 0 0,.bool false,.int .i64 0,.int .i64 0,.string ⟨#[]⟩,.bool false,.slice none 0 0] 287))
 unfold XQ at hc
 clear h
 go_enter func353,ntmps353
 go_wp2_with fail
 generalize (w.alloc _)=W0 at C0 OB0 ⊢
 refine (hc _ C0.out.rt).mono ?_;rintro e w1 ⟨rfl,hf,hn1⟩
 have C5:=hid ((C0.out.step hf hn1).add #[.int .i64 4,.slice none 0 0,.bool false,.slice none 0 0,.int .i64 i,.bool la,.int .i64 lk,.int .i64 ln,.string ⟨#[]⟩,.bool false,.slice none 0 0,.bool ra,.int .i64 rk,.int .i64 rn,.string ⟨#[]⟩,.bool false,.slice none 0 0] 287)
 have OB5:=hid (alloc_blk w1 (.cells #[.int .i64 4,.slice none 0 0,.bool false,.slice none 0 0,.int .i64 i,.bool la,.int .i64 lk,.int .i64 ln,.string ⟨#[]⟩,.bool false,.slice none 0 0,.bool ra,.int .i64 rk,.int .i64 rn,.string ⟨#[]⟩,.bool false,.slice none 0 0] 287) (hf.blk (C0.out.bs _ (.head _)).lt (by simp;omega) OB0.out))
 clear C0 hf hn1 hc OB0
 go_wp2_with (first|(refine wp_loop_unr 1 ?_;refine Unr.step ?_;intro U hU))
 refine (take_n (r:=r) (g:=g) (t:=u) (ts:=ts) (en:=en) (dp:=dp) _ hu _ C5.out.rt).mono ?_;rintro e w2 ⟨rfl,rfl⟩
 generalize (w1.alloc _)=W5 at C5 OB5 ⊢
 generalize w1.heap.size=S at C5 ⊢
 as_aux_lemma=>
  have s0:=C5.out.cell (b:=S) (.head _) 0 _ rfl
  have s1:=C5.out.cell (b:=S) (.head _) 1 _ rfl
  have s2:=C5.out.cell (b:=S) (.head _) 2 _ rfl
  have s3:=C5.out.cell (b:=S) (.head _) 3 _ rfl
  have s4:=C5.out.cell (b:=S) (.head _) 4 _ rfl
  have s5:=C5.out.cell (b:=S) (.head _) 5 _ rfl
  have s6:=C5.out.cell (b:=S) (.head _) 6 _ rfl
  have s7:=C5.out.cell (b:=S) (.head _) 7 _ rfl
  have s8:=C5.out.cell (b:=S) (.head _) 8 _ rfl
  have s9:=C5.out.cell (b:=S) (.head _) 9 _ rfl
  have s10:=C5.out.cell (b:=S) (.head _) 10 _ rfl
  have s11:=C5.out.cell (b:=S) (.head _) 11 _ rfl
  have s12:=C5.out.cell (b:=S) (.head _) 12 _ rfl
  have s13:=C5.out.cell (b:=S) (.head _) 13 _ rfl
  have s14:=C5.out.cell (b:=S) (.head _) 14 _ rfl
  have s15:=C5.out.cell (b:=S) (.head _) 15 _ rfl
  have s16:=C5.out.cell (b:=S) (.head _) 16 _ rfl
  have sl:=(C5.out.bs _ (.head _)).lt
  go_wp2_with (first|((with_reducible show wpList _ _ _ (⟨_,Op.store _ _ _,_,_,_,_⟩ ::_) _ _);refine wpList_store_row rfl 287 _ _ rfl w.heap.size #[.int .i64 4,.slice none 0 0,.bool false,.slice none 0 0,.int .i64 i,.bool la,.int .i64 lk,.int .i64 ln,.string ⟨#[]⟩,.bool false,.slice none 0 0,.bool ra,.int .i64 rk,.int .i64 rn,.string ⟨#[]⟩,.bool false,.slice none 0 0] rfl rfl 287 #[.int .i64 0,.slice none 0 0,.bool false,.slice none 0 0,.int .i64 0,.bool false,.int .i64 0,.int .i64 0,.string ⟨#[]⟩,.bool false,.slice none 0 0,.bool false,.int .i64 0,.int .i64 0,.string ⟨#[]⟩,.bool false,.slice none 0 0] OB5.out (by kernel_rfl) rfl (by kernel_rfl) ?_))
  have C6:=hid (C5.out.row lt (.tail _ (.head _)) OB5.out (new:=(#[.int .i64 4,.slice none 0 0,.bool false,.slice none 0 0,.int .i64 i,.bool la,.int .i64 lk,.int .i64 ln,.string ⟨#[]⟩,.bool false,.slice none 0 0,.bool ra,.int .i64 rk,.int .i64 rn,.string ⟨#[]⟩,.bool false,.slice none 0 0]:Array Value)))
  clear C5 OB5 s0 s1 s2 s3 s4 s5 s6 s7 s8 s9 s10 s11 s12 s13 s14 s15 s16 sl
  generalize (World.setRow _ _ _)=W6 at C6 ⊢
  as_aux_lemma=>
   have x0:=C6.out.cell (b:=w.heap.size) (.head _) 0 _ rfl
   have x1:=C6.out.cell (b:=w.heap.size) (.head _) 1 _ rfl
   have x2:=C6.out.cell (b:=w.heap.size) (.head _) 2 _ rfl
   have x3:=C6.out.cell (b:=w.heap.size) (.head _) 3 _ rfl
   have x4:=C6.out.cell (b:=w.heap.size) (.head _) 4 _ rfl
   have x5:=C6.out.cell (b:=w.heap.size) (.head _) 5 _ rfl
   have x6:=C6.out.cell (b:=w.heap.size) (.head _) 6 _ rfl
   have x7:=C6.out.cell (b:=w.heap.size) (.head _) 7 _ rfl
   have x8:=C6.out.cell (b:=w.heap.size) (.head _) 8 _ rfl
   have x9:=C6.out.cell (b:=w.heap.size) (.head _) 9 _ rfl
   have x10:=C6.out.cell (b:=w.heap.size) (.head _) 10 _ rfl
   have x11:=C6.out.cell (b:=w.heap.size) (.head _) 11 _ rfl
   have x12:=C6.out.cell (b:=w.heap.size) (.head _) 12 _ rfl
   have x13:=C6.out.cell (b:=w.heap.size) (.head _) 13 _ rfl
   have x14:=C6.out.cell (b:=w.heap.size) (.head _) 14 _ rfl
   have x15:=C6.out.cell (b:=w.heap.size) (.head _) 15 _ rfl
   have x16:=C6.out.cell (b:=w.heap.size) (.head _) 16 _ rfl
   have xl:=(C6.out.bs _ (.head _)).lt
   refine bodyPost_ret (v:=.agg #[.int .i64 4,.slice none 0 0,.bool false,.slice none 0 0,.int .i64 i,.bool la,.int .i64 lk,.int .i64 ln,.string ⟨#[]⟩,.bool false,.slice none 0 0,.bool ra,.int .i64 rk,.int .i64 rn,.string ⟨#[]⟩,.bool false,.slice none 0 0]) (by simp [results,results353,go_sem, *]) rfl ⟨rfl,C6.out.qf,C6.out.rt⟩
end Nn
end Go.Proofs.YtjcioljdlfdnbaaGreatDoor
