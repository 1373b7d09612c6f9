/- Part 40: lemmas for TopNumber; no conditions. -/
import Derived.Test.YtjcioljdlfdnbaaGreatDoorH39
set_option linter.unusedVariables false
set_option linter.unusedSimpArgs false
set_option maxRecDepth 100000
set_option maxHeartbeats 2000000
open Go.Proofs.Tryz
namespace Go.Proofs.YtjcioljdlfdnbaaGreatDoor
namespace Nn
open Go.RowKit
theorem list_r{r g:Nat}{en dp:Int}{u:Tok}{t0 ts:List Tok}(i:Int)(la:Bool)(lk ln:Int)(ra:Bool)(rk rn:Int)(hu:Is u ⟨#[124,124]⟩ false)(hc:XQ 354 r g t0 (u::ts) en dp i la lk ln ra rk rn)(w:World)(h:Rt w r g t0 en dp): Calls prog 353 #[.pointer (some ⟨r,0,none⟩),.string ⟨#[124,124]⟩,.int .i64 0,.func (.func 354) #[.pointer (some ⟨r,0,none⟩)] #[]] w fun e w'=>e=.returned (.agg #[.int .i64 4,.slice none 0 0,.bool false,.slice none 0 0,.int .i64 i,.bool la,.int .i64 lk,.int .i64 ln,.string ⟨#[]⟩,.bool false,.slice none 0 0,.bool ra,.int .i64 rk,.int .i64 rn,.string ⟨#[]⟩,.bool false,.slice none 0 0])∧QF r w w'∧Rt w' r g (u::ts) en dp:=by
 have lt:=h.lt
 have glt:=h.glt
 have C0:=hid ((CX.start h).add #[.int .i64 0,.slice none 0 0,.bool false,.slice none 0 0,.int .i64 0,.bool false,.int .i64 0,.int .i64 0,.string ⟨#[]⟩,.bool false,.slice none 0 0,.bool false,.int .i64 0,.int .i64 0,.string ⟨#[]⟩,.bool false,.slice none 0 0] 287)
 have OB0:=hid (heap_alloc_new w (.cells #[.int .i64 0,.slice none 0 0,.bool false,.slice none 0 0,.int .i64 0,.bool false,.int .i64 0,.int .i64 0,.string ⟨#[]⟩,.bool false,.slice none 0 0,.bool false,.int .i64 0,.int .i64 0,.string ⟨#[]⟩,.bool false,.slice none 0 0] 287))
 unfold XQ at hc
 clear h
 go_enter func353,ntmps353
 go_wp2_with fail
 generalize (w.alloc _)=W0 at C0 OB0 ⊢
 refine (hc _ C0.out.rt).mono ?_;rintro e w1 ⟨rfl,hf,hn1⟩
 have C5:=hid ((C0.out.step hf hn1).add #[.int .i64 4,.slice none 0 0,.bool false,.slice none 0 0,.int .i64 i,.bool la,.int .i64 lk,.int .i64 ln,.string ⟨#[]⟩,.bool false,.slice none 0 0,.bool ra,.int .i64 rk,.int .i64 rn,.string ⟨#[]⟩,.bool false,.slice none 0 0] 287)
 have OB5:=hid (alloc_blk w1 (.cells #[.int .i64 4,.slice none 0 0,.bool false,.slice none 0 0,.int .i64 i,.bool la,.int .i64 lk,.int .i64 ln,.string ⟨#[]⟩,.bool false,.slice none 0 0,.bool ra,.int .i64 rk,.int .i64 rn,.string ⟨#[]⟩,.bool false,.slice none 0 0] 287) (hf.blk (C0.out.bs _ (.head _)).lt (by simp;omega) OB0.out))
 clear C0 hf hn1 hc OB0
 go_wp2_with (first|(refine wp_loop_unr 1 ?_;refine Unr.step ?_;intro U hU))
 refine (take_n (r:=r) (g:=g) (t:=u) (ts:=ts) (en:=en) (dp:=dp) _ hu _ C5.out.rt).mono ?_;rintro e w2 ⟨rfl,rfl⟩
 generalize (w1.alloc _)=W5 at C5 OB5 ⊢
 generalize w1.heap.size=S at C5 ⊢
 as_aux_lemma=>
  have s0:=C5.out.cell (b:=S) (.head _) 0 _ rfl
  have s1:=C5.out.cell (b:=S) (.head _) 1 _ rfl
  have s2:=C5.out.cell (b:=S) (.head _) 2 _ rfl
  have s3:=C5.out.cell (b:=S) (.head _) 3 _ rfl
  have s4:=C5.out.cell (b:=S) (.head _) 4 _ rfl
  have s5:=C5.out.cell (b:=S) (.head _) 5 _ rfl
  have s6:=C5.out.cell (b:=S) (.head _) 6 _ rfl
  have s7:=C5.out.cell (b:=S) (.head _) 7 _ rfl
  have s8:=C5.out.cell (b:=S) (.head _) 8 _ rfl
  have s9:=C5.out.cell (b:=S) (.head _) 9 _ rfl
  have s10:=C5.out.cell (b:=S) (.head _) 10 _ rfl
  have s11:=C5.out.cell (b:=S) (.head _) 11 _ rfl
  have s12:=C5.out.cell (b:=S) (.head _) 12 _ rfl
  have s13:=C5.out.cell (b:=S) (.head _) 13 _ rfl
  have s14:=C5.out.cell (b:=S) (.head _) 14 _ rfl
  have s15:=C5.out.cell (b:=S) (.head _) 15 _ rfl
  have s16:=C5.out.cell (b:=S) (.head _) 16 _ rfl
  have sl:=(C5.out.bs _ (.head _)).lt
  go_wp2_with (first|((with_reducible show wpList _ _ _ (⟨_,Op.store _ _ _,_,_,_,_⟩ ::_) _ _);refine wpList_store_row rfl 287 _ _ rfl w.heap.size #[.int .i64 4,.slice none 0 0,.bool false,.slice none 0 0,.int .i64 i,.bool la,.int .i64 lk,.int .i64 ln,.string ⟨#[]⟩,.bool false,.slice none 0 0,.bool ra,.int .i64 rk,.int .i64 rn,.string ⟨#[]⟩,.bool false,.slice none 0 0] rfl rfl 287 #[.int .i64 0,.slice none 0 0,.bool false,.slice none 0 0,.int .i64 0,.bool false,.int .i64 0,.int .i64 0,.string ⟨#[]⟩,.bool false,.slice none 0 0,.bool false,.int .i64 0,.int .i64 0,.string ⟨#[]⟩,.bool false,.slice none 0 0] OB5.out (by kernel_rfl) rfl (by kernel_rfl) ?_))
  have C6:=hid (C5.out.row lt (.tail _ (.head _)) OB5.out (new:=(#[.int .i64 4,.slice none 0 0,.bool false,.slice none 0 0,.int .i64 i,.bool la,.int .i64 lk,.int .i64 ln,.string ⟨#[]⟩,.bool false,.slice none 0 0,.bool ra,.int .i64 rk,.int .i64 rn,.string ⟨#[]⟩,.bool false,.slice none 0 0]:Array Value)))
  clear C5 OB5 s0 s1 s2 s3 s4 s5 s6 s7 s8 s9 s10 s11 s12 s13 s14 s15 s16 sl
  generalize (World.setRow _ _ _)=W6 at C6 ⊢
  as_aux_lemma=>
   have x0:=C6.out.cell (b:=w.heap.size) (.head _) 0 _ rfl
   have x1:=C6.out.cell (b:=w.heap.size) (.head _) 1 _ rfl
   have x2:=C6.out.cell (b:=w.heap.size) (.head _) 2 _ rfl
   have x3:=C6.out.cell (b:=w.heap.size) (.head _) 3 _ rfl
   have x4:=C6.out.cell (b:=w.heap.size) (.head _) 4 _ rfl
   have x5:=C6.out.cell (b:=w.heap.size) (.head _) 5 _ rfl
   have x6:=C6.out.cell (b:=w.heap.size) (.head _) 6 _ rfl
   have x7:=C6.out.cell (b:=w.heap.size) (.head _) 7 _ rfl
   have x8:=C6.out.cell (b:=w.heap.size) (.head _) 8 _ rfl
   have x9:=C6.out.cell (b:=w.heap.size) (.head _) 9 _ rfl
   have x10:=C6.out.cell (b:=w.heap.size) (.head _) 10 _ rfl
   have x11:=C6.out.cell (b:=w.heap.size) (.head _) 11 _ rfl
   have x12:=C6.out.cell (b:=w.heap.size) (.head _) 12 _ rfl
   have x13:=C6.out.cell (b:=w.heap.size) (.head _) 13 _ rfl
   have x14:=C6.out.cell (b:=w.heap.size) (.head _) 14 _ rfl
   have x15:=C6.out.cell (b:=w.heap.size) (.head _) 15 _ rfl
   have x16:=C6.out.cell (b:=w.heap.size) (.head _) 16 _ rfl
   have xl:=(C6.out.bs _ (.head _)).lt
   refine bodyPost_ret (v:=.agg #[.int .i64 4,.slice none 0 0,.bool false,.slice none 0 0,.int .i64 i,.bool la,.int .i64 lk,.int .i64 ln,.string ⟨#[]⟩,.bool false,.slice none 0 0,.bool ra,.int .i64 rk,.int .i64 rn,.string ⟨#[]⟩,.bool false,.slice none 0 0]) (by simp [results,results353,go_sem, *]) rfl ⟨rfl,C6.out.qf,C6.out.rt⟩
end Nn
end Go.Proofs.YtjcioljdlfdnbaaGreatDoor
