/- Part 24: lemmas for TopNumber; no conditions. -/
import Derived.Test.YtjcioljdlfdnbaaGreatDoorH14
set_option linter.unusedVariables false
set_option linter.unusedSimpArgs false
set_option maxRecDepth 100000
set_option maxHeartbeats 2000000
open Go.Proofs.Tryz
namespace Go.Proofs.YtjcioljdlfdnbaaGreatDoor
namespace Nn
open Go.RowKit
theorem cmp_a{r g:Nat}{en dp:Int}{t o n:Tok}{ts:List Tok}(i:Nat)(ht:Is t ⟨#[64]⟩ true)(ht2:Is t ⟨#[36]⟩ false)(ho:Nos o)(hok:o.K=1)(hoi:opsL[i]?=some o.S)(hn:n.K=3)(w:World)(h:Rt w r g (t::o::n::ts) en dp): Calls prog 387 #[.pointer (some ⟨r,0,none⟩)] w fun e w'=>e=.returned (.agg #[.int .i64 4,.slice none 0 0,.bool false,.slice none 0 0,.int .i64 (i:Nat),.bool false,.int .i64 0,.int .i64 0,.string ⟨#[]⟩,.bool false,.slice none 0 0,.bool true,.int .i64 2,.int .i64 n.N,.string ⟨#[]⟩,.bool false,.slice none 0 0])∧QF r w w'∧Rt w' r g ts en dp:=by
 have lt:=h.lt
 have glt:=h.glt
 have hS:=fun W h=>side_path (r:=r) (g:=g) (t:=t) (u:=o) (ts:=n::ts) (en:=en) (dp:=dp) ht ht2 ho W h
 have hA:=fun W h=>at_t (r:=r) (g:=g) (t:=o) (ts:=n::ts) (en:=en) (dp:=dp) W h
 have hO:=fun W h=>op_t (r:=r) (g:=g) (t:=o) (ts:=n::ts) (en:=en) (dp:=dp) i hok hoi W h
 have hX:=fun W h=>next_t (r:=r) (g:=g) (t:=o) (ts:=n::ts) (en:=en) (dp:=dp) W h
 have hY:=fun W h=>side_num (r:=r) (g:=g) (t:=n) (ts:=ts) (en:=en) (dp:=dp) hn W h
 have C0:=hid ((CX.start h).add #[.int .i64 0,.slice none 0 0,.bool false,.slice none 0 0,.int .i64 0,.bool false,.int .i64 0,.int .i64 0,.string ⟨#[]⟩,.bool false,.slice none 0 0,.bool false,.int .i64 0,.int .i64 0,.string ⟨#[]⟩,.bool false,.slice none 0 0] 287)
 have:decide ((i:Int)<0)=false:=by rw [decide_eq_false_iff_not];omega
 clear h
 go_enter func387,ntmps387
 go_wp2_with fail
 generalize (w.alloc _)=W0 at C0 ⊢
 refine (hS _ C0.out.rt).mono ?_;rintro e w1 ⟨rfl,hf,hn1⟩
 have C1:=hid ((C0.out.step hf hn1).add #[.bool false,.int .i64 0,.int .i64 0,.string ⟨#[]⟩,.bool false,.slice none 0 0] 285)
 clear C0 hf hn1 hS
 go_wp2_with fail
 generalize (w1.alloc _)=W1 at C1 ⊢
 generalize w1.heap.size=A at C1 ⊢
 refine (hA _ C1.out.rt).mono ?_;rintro e w2 ⟨rfl,rfl⟩
 go_wp2_with fail
 refine (hO _ C1.out.rt).mono ?_;rintro e w3 ⟨rfl,hb⟩
 have C2:=hid (C1.out.below hb)
 clear C1 hb hA hO
 go_wp2_with fail
 refine (hX _ C2.out.rt).mono ?_;rintro e w4 ⟨rfl,hf,hn1⟩
 have C3:=hid (C2.out.step hf hn1)
 clear C2 hf hn1 hX
 go_wp2_with fail
 refine (hY _ C3.out.rt).mono ?_;rintro e w5 ⟨rfl,hf,hn1⟩
 have C4:=hid (C3.out.step hf hn1)
 clear C3 hf hn1 hY
 have a0:=C4.out.cell (b:=A) (.head _) 0 _ rfl
 have a1:=C4.out.cell (b:=A) (.head _) 1 _ rfl
 have a2:=C4.out.cell (b:=A) (.head _) 2 _ rfl
 have a3:=C4.out.cell (b:=A) (.head _) 3 _ rfl
 have a4:=C4.out.cell (b:=A) (.head _) 4 _ rfl
 have a5:=C4.out.cell (b:=A) (.head _) 5 _ rfl
 have al:A<w5.heap.size:=(C4.out.bs _ (.head _)).lt
 have al1:A<w5.heap.size+1:=oM
 have al2:A<w5.heap.size+1+1:=oM
 go_wp2_with fail
 have C5:=hid ((C4.out.add #[.bool true,.int .i64 2,.int .i64 n.N,.string ⟨#[]⟩,.bool false,.slice none 0 0] 285).below (qR.alloc qL (.cells #[.bool false,.slice none 0 0] 118)))
 clear C4 a0 a1 a2 a3 a4 a5 al al1 al2
 generalize ((w5.alloc _).alloc _)=W5 at C5 ⊢
 generalize w5.heap.size=B at C5 ⊢
 refine (sing_0 _).mono ?_;rintro e w6 ⟨rfl,hb⟩
 have C6:=hid (C5.out.below hb)
 clear C5 hb
 have b0:=C6.out.cell (b:=B) (.head _) 0 _ rfl
 have b1:=C6.out.cell (b:=B) (.head _) 1 _ rfl
 have b2:=C6.out.cell (b:=B) (.head _) 2 _ rfl
 have b3:=C6.out.cell (b:=B) (.head _) 3 _ rfl
 have b4:=C6.out.cell (b:=B) (.head _) 4 _ rfl
 have b5:=C6.out.cell (b:=B) (.head _) 5 _ rfl
 have a0:=C6.out.cell (b:=A) (.tail _ (.head _)) 0 _ rfl
 have a1:=C6.out.cell (b:=A) (.tail _ (.head _)) 1 _ rfl
 have a2:=C6.out.cell (b:=A) (.tail _ (.head _)) 2 _ rfl
 have a3:=C6.out.cell (b:=A) (.tail _ (.head _)) 3 _ rfl
 have a4:=C6.out.cell (b:=A) (.tail _ (.head _)) 4 _ rfl
 have a5:=C6.out.cell (b:=A) (.tail _ (.head _)) 5 _ rfl
 have x0:=C6.out.cell (b:=w.heap.size) (.tail _ (.tail _ (.head _))) 0 _ rfl
 have x1:=C6.out.cell (b:=w.heap.size) (.tail _ (.tail _ (.head _))) 1 _ rfl
 have x2:=C6.out.cell (b:=w.heap.size) (.tail _ (.tail _ (.head _))) 2 _ rfl
 have x3:=C6.out.cell (b:=w.heap.size) (.tail _ (.tail _ (.head _))) 3 _ rfl
 have x4:=C6.out.cell (b:=w.heap.size) (.tail _ (.tail _ (.head _))) 4 _ rfl
 have x5:=C6.out.cell (b:=w.heap.size) (.tail _ (.tail _ (.head _))) 5 _ rfl
 have x6:=C6.out.cell (b:=w.heap.size) (.tail _ (.tail _ (.head _))) 6 _ rfl
 have x7:=C6.out.cell (b:=w.heap.size) (.tail _ (.tail _ (.head _))) 7 _ rfl
 have x8:=C6.out.cell (b:=w.heap.size) (.tail _ (.tail _ (.head _))) 8 _ rfl
 have x9:=C6.out.cell (b:=w.heap.size) (.tail _ (.tail _ (.head _))) 9 _ rfl
 have x10:=C6.out.cell (b:=w.heap.size) (.tail _ (.tail _ (.head _))) 10 _ rfl
 have x11:=C6.out.cell (b:=w.heap.size) (.tail _ (.tail _ (.head _))) 11 _ rfl
 have x12:=C6.out.cell (b:=w.heap.size) (.tail _ (.tail _ (.head _))) 12 _ rfl
 have x13:=C6.out.cell (b:=w.heap.size) (.tail _ (.tail _ (.head _))) 13 _ rfl
 have x14:=C6.out.cell (b:=w.heap.size) (.tail _ (.tail _ (.head _))) 14 _ rfl
 have x15:=C6.out.cell (b:=w.heap.size) (.tail _ (.tail _ (.head _))) 15 _ rfl
 have x16:=C6.out.cell (b:=w.heap.size) (.tail _ (.tail _ (.head _))) 16 _ rfl
 have y0:=C6.out.fz (b:=w.heap.size) (.tail _ (.tail _ (.head _))) 0 sM
 have y1:=C6.out.fz (b:=w.heap.size) (.tail _ (.tail _ (.head _))) 1 sM
 have y2:=C6.out.fz (b:=w.heap.size) (.tail _ (.tail _ (.head _))) 2 sM
 have y3:=C6.out.fz (b:=w.heap.size) (.tail _ (.tail _ (.head _))) 3 sM
 have y4:=C6.out.fz (b:=w.heap.size) (.tail _ (.tail _ (.head _))) 4 sM
 have y5:=C6.out.fz (b:=w.heap.size) (.tail _ (.tail _ (.head _))) 5 sM
 have y6:=C6.out.fz (b:=w.heap.size) (.tail _ (.tail _ (.head _))) 6 sM
 have y7:=C6.out.fz (b:=w.heap.size) (.tail _ (.tail _ (.head _))) 7 sM
 have y8:=C6.out.fz (b:=w.heap.size) (.tail _ (.tail _ (.head _))) 8 sM
 have y9:=C6.out.fz (b:=w.heap.size) (.tail _ (.tail _ (.head _))) 9 sM
 have y10:=C6.out.fz (b:=w.heap.size) (.tail _ (.tail _ (.head _))) 10 sM
 have y11:=C6.out.fz (b:=w.heap.size) (.tail _ (.tail _ (.head _))) 11 sM
 have y12:=C6.out.fz (b:=w.heap.size) (.tail _ (.tail _ (.head _))) 12 sM
 have y13:=C6.out.fz (b:=w.heap.size) (.tail _ (.tail _ (.head _))) 13 sM
 have y14:=C6.out.fz (b:=w.heap.size) (.tail _ (.tail _ (.head _))) 14 sM
 have y15:=C6.out.fz (b:=w.heap.size) (.tail _ (.tail _ (.head _))) 15 sM
 have y16:=C6.out.fz (b:=w.heap.size) (.tail _ (.tail _ (.head _))) 16 sM
 have:w.heap.size<w6.heap.size:=(C6.out.bs _ (.tail _ (.tail _ (.head _)))).lt
 go_wp2_with fail
 refine bodyPost_ret (v:=.agg #[.int .i64 4,.slice none 0 0,.bool false,.slice none 0 0,.int .i64 (i:Nat),.bool false,.int .i64 0,.int .i64 0,.string ⟨#[]⟩,.bool false,.slice none 0 0,.bool true,.int .i64 2,.int .i64 n.N,.string ⟨#[]⟩,.bool false,.slice none 0 0]) (by simp [results,results387,go_sem, *]) rfl ⟨rfl,?_,?_⟩
 ·exact (by (repeat' (first|refine QF.new ?_ aM tq5 _|(refine QF.alloc ?_ aM _)|(refine QF.drewN ?_ aM _)|(refine QF.drew ?_ aM)|refine QF.set ?_ (by first|rfl|(simp;done)) _|assumption|exact CX.qf (Hid.out aM)|exact QF.refl _ _)))
 ·exact (by repeat' (first|refine Rt.setO ?_ tq5 tq5 _|refine Rt.below ?_ (qR.alloc qL _)|refine Rt.below ?_ (below_drewN' qR _)|refine Rt.below ?_ (Below.drew qR)|assumption|exact CX.rt (Hid.out aM)))
theorem cmp_b{r g:Nat}{en dp:Int}{t o n u:Tok}{ts:List Tok}(i:Nat)(ht:Is t ⟨#[64]⟩ true)(ht2:Is t ⟨#[36]⟩ false)(hu:Nos u)(hok:o.K=1)(hoi:opsL[i]?=some o.S)(hn:n.K=3)(w:World)(h:Rt w r g (n::o::t::u::ts) en dp): Calls prog 387 #[.pointer (some ⟨r,0,none⟩)] w fun e w'=>e=.returned (.agg #[.int .i64 4,.slice none 0 0,.bool false,.slice none 0 0,.int .i64 (i:Nat),.bool true,.int .i64 2,.int .i64 n.N,.string ⟨#[]⟩,.bool false,.slice none 0 0,.bool false,.int .i64 0,.int .i64 0,.string ⟨#[]⟩,.bool false,.slice none 0 0])∧QF r w w'∧Rt w' r g (u::ts) en dp:=by
 have lt:=h.lt
 have glt:=h.glt
 have hS:=fun W h=>side_num (r:=r) (g:=g) (t:=n) (ts:=o::t::u::ts) (en:=en) (dp:=dp) hn W h
 have hA:=fun W h=>at_t (r:=r) (g:=g) (t:=o) (ts:=t::u::ts) (en:=en) (dp:=dp) W h
 have hO:=fun W h=>op_t (r:=r) (g:=g) (t:=o) (ts:=t::u::ts) (en:=en) (dp:=dp) i hok hoi W h
 have hX:=fun W h=>next_t (r:=r) (g:=g) (t:=o) (ts:=t::u::ts) (en:=en) (dp:=dp) W h
 have hY:=fun W h=>side_path (r:=r) (g:=g) (t:=t) (u:=u) (ts:=ts) (en:=en) (dp:=dp) ht ht2 hu W h
 have C0:=hid ((CX.start h).add #[.int .i64 0,.slice none 0 0,.bool false,.slice none 0 0,.int .i64 0,.bool false,.int .i64 0,.int .i64 0,.string ⟨#[]⟩,.bool false,.slice none 0 0,.bool false,.int .i64 0,.int .i64 0,.string ⟨#[]⟩,.bool false,.slice none 0 0] 287)
 have:decide ((i:Int)<0)=false:=by rw [decide_eq_false_iff_not];omega
 clear h
 go_enter func387,ntmps387
 go_wp2_with fail
 generalize (w.alloc _)=W0 at C0 ⊢
 refine (hS _ C0.out.rt).mono ?_;rintro e w1 ⟨rfl,hf,hn1⟩
 have C1:=hid ((C0.out.step hf hn1).add #[.bool true,.int .i64 2,.int .i64 n.N,.string ⟨#[]⟩,.bool false,.slice none 0 0] 285)
 clear C0 hf hn1 hS
 go_wp2_with fail
 generalize (w1.alloc _)=W1 at C1 ⊢
 generalize w1.heap.size=A at C1 ⊢
 refine (hA _ C1.out.rt).mono ?_;rintro e w2 ⟨rfl,rfl⟩
 go_wp2_with fail
 refine (hO _ C1.out.rt).mono ?_;rintro e w3 ⟨rfl,hb⟩
 have C2:=hid (C1.out.below hb)
 clear C1 hb hA hO
 go_wp2_with fail
 refine (hX _ C2.out.rt).mono ?_;rintro e w4 ⟨rfl,hf,hn1⟩
 have C3:=hid (C2.out.step hf hn1)
 clear C2 hf hn1 hX
 go_wp2_with fail
 refine (hY _ C3.out.rt).mono ?_;rintro e w5 ⟨rfl,hf,hn1⟩
 have C4:=hid (C3.out.step hf hn1)
 clear C3 hf hn1 hY
 have a0:=C4.out.cell (b:=A) (.head _) 0 _ rfl
 have a1:=C4.out.cell (b:=A) (.head _) 1 _ rfl
 have a2:=C4.out.cell (b:=A) (.head _) 2 _ rfl
 have a3:=C4.out.cell (b:=A) (.head _) 3 _ rfl
 have a4:=C4.out.cell (b:=A) (.head _) 4 _ rfl
 have a5:=C4.out.cell (b:=A) (.head _) 5 _ rfl
 have al:A<w5.heap.size:=(C4.out.bs _ (.head _)).lt
 have al1:A<w5.heap.size+1:=oM
 have al2:A<w5.heap.size+1+1:=oM
 go_wp2_with fail
 have C5:=hid (C4.out.add #[.bool false,.int .i64 0,.int .i64 0,.string ⟨#[]⟩,.bool false,.slice none 0 0] 285)
 clear C4 a0 a1 a2 a3 a4 a5
 refine (sing_0 _).mono ?_;rintro e w6 ⟨rfl,hb⟩
 have hB:=bel_step (w:=w5.alloc (.cells #[.bool false,.int .i64 0,.int .i64 0,.string ⟨#[]⟩,.bool false,.slice none 0 0] 285)) tq4 hb
 have C6:=hid (C5.out.below hB.out)
 clear C5 hb hB al al1 al2
 generalize w5.heap.size=B at C6 ⊢
 have b0:=C6.out.cell (b:=B) (.head _) 0 _ rfl
 have b1:=C6.out.cell (b:=B) (.head _) 1 _ rfl
 have b2:=C6.out.cell (b:=B) (.head _) 2 _ rfl
 have b3:=C6.out.cell (b:=B) (.head _) 3 _ rfl
 have b4:=C6.out.cell (b:=B) (.head _) 4 _ rfl
 have b5:=C6.out.cell (b:=B) (.head _) 5 _ rfl
 have a0:=C6.out.cell (b:=A) (.tail _ (.head _)) 0 _ rfl
 have a1:=C6.out.cell (b:=A) (.tail _ (.head _)) 1 _ rfl
 have a2:=C6.out.cell (b:=A) (.tail _ (.head _)) 2 _ rfl
 have a3:=C6.out.cell (b:=A) (.tail _ (.head _)) 3 _ rfl
 have a4:=C6.out.cell (b:=A) (.tail _ (.head _)) 4 _ rfl
 have a5:=C6.out.cell (b:=A) (.tail _ (.head _)) 5 _ rfl
 have x0:=C6.out.cell (b:=w.heap.size) (.tail _ (.tail _ (.head _))) 0 _ rfl
 have x1:=C6.out.cell (b:=w.heap.size) (.tail _ (.tail _ (.head _))) 1 _ rfl
 have x2:=C6.out.cell (b:=w.heap.size) (.tail _ (.tail _ (.head _))) 2 _ rfl
 have x3:=C6.out.cell (b:=w.heap.size) (.tail _ (.tail _ (.head _))) 3 _ rfl
 have x4:=C6.out.cell (b:=w.heap.size) (.tail _ (.tail _ (.head _))) 4 _ rfl
 have x5:=C6.out.cell (b:=w.heap.size) (.tail _ (.tail _ (.head _))) 5 _ rfl
 have x6:=C6.out.cell (b:=w.heap.size) (.tail _ (.tail _ (.head _))) 6 _ rfl
 have x7:=C6.out.cell (b:=w.heap.size) (.tail _ (.tail _ (.head _))) 7 _ rfl
 have x8:=C6.out.cell (b:=w.heap.size) (.tail _ (.tail _ (.head _))) 8 _ rfl
 have x9:=C6.out.cell (b:=w.heap.size) (.tail _ (.tail _ (.head _))) 9 _ rfl
 have x10:=C6.out.cell (b:=w.heap.size) (.tail _ (.tail _ (.head _))) 10 _ rfl
 have x11:=C6.out.cell (b:=w.heap.size) (.tail _ (.tail _ (.head _))) 11 _ rfl
 have x12:=C6.out.cell (b:=w.heap.size) (.tail _ (.tail _ (.head _))) 12 _ rfl
 have x13:=C6.out.cell (b:=w.heap.size) (.tail _ (.tail _ (.head _))) 13 _ rfl
 have x14:=C6.out.cell (b:=w.heap.size) (.tail _ (.tail _ (.head _))) 14 _ rfl
 have x15:=C6.out.cell (b:=w.heap.size) (.tail _ (.tail _ (.head _))) 15 _ rfl
 have x16:=C6.out.cell (b:=w.heap.size) (.tail _ (.tail _ (.head _))) 16 _ rfl
 have y0:=C6.out.fz (b:=w.heap.size) (.tail _ (.tail _ (.head _))) 0 sM
 have y1:=C6.out.fz (b:=w.heap.size) (.tail _ (.tail _ (.head _))) 1 sM
 have y2:=C6.out.fz (b:=w.heap.size) (.tail _ (.tail _ (.head _))) 2 sM
 have y3:=C6.out.fz (b:=w.heap.size) (.tail _ (.tail _ (.head _))) 3 sM
 have y4:=C6.out.fz (b:=w.heap.size) (.tail _ (.tail _ (.head _))) 4 sM
 have y5:=C6.out.fz (b:=w.heap.size) (.tail _ (.tail _ (.head _))) 5 sM
 have y6:=C6.out.fz (b:=w.heap.size) (.tail _ (.tail _ (.head _))) 6 sM
 have y7:=C6.out.fz (b:=w.heap.size) (.tail _ (.tail _ (.head _))) 7 sM
 have y8:=C6.out.fz (b:=w.heap.size) (.tail _ (.tail _ (.head _))) 8 sM
 have y9:=C6.out.fz (b:=w.heap.size) (.tail _ (.tail _ (.head _))) 9 sM
 have y10:=C6.out.fz (b:=w.heap.size) (.tail _ (.tail _ (.head _))) 10 sM
 have y11:=C6.out.fz (b:=w.heap.size) (.tail _ (.tail _ (.head _))) 11 sM
 have y12:=C6.out.fz (b:=w.heap.size) (.tail _ (.tail _ (.head _))) 12 sM
 have y13:=C6.out.fz (b:=w.heap.size) (.tail _ (.tail _ (.head _))) 13 sM
 have y14:=C6.out.fz (b:=w.heap.size) (.tail _ (.tail _ (.head _))) 14 sM
 have y15:=C6.out.fz (b:=w.heap.size) (.tail _ (.tail _ (.head _))) 15 sM
 have y16:=C6.out.fz (b:=w.heap.size) (.tail _ (.tail _ (.head _))) 16 sM
 have:w.heap.size<w6.heap.size:=(C6.out.bs _ (.tail _ (.tail _ (.head _)))).lt
 go_wp2_with fail
 refine bodyPost_ret (v:=.agg #[.int .i64 4,.slice none 0 0,.bool false,.slice none 0 0,.int .i64 (i:Nat),.bool true,.int .i64 2,.int .i64 n.N,.string ⟨#[]⟩,.bool false,.slice none 0 0,.bool false,.int .i64 0,.int .i64 0,.string ⟨#[]⟩,.bool false,.slice none 0 0]) (by simp [results,results387,go_sem, *]) rfl ⟨rfl,?_,?_⟩
 ·exact (by (repeat' (first|refine QF.new ?_ aM tq5 _|(refine QF.alloc ?_ aM _)|(refine QF.drewN ?_ aM _)|(refine QF.drew ?_ aM)|refine QF.set ?_ (by first|rfl|(simp;done)) _|assumption|exact CX.qf (Hid.out aM)|exact QF.refl _ _)))
 ·exact (by repeat' (first|refine Rt.setO ?_ tq5 tq5 _|refine Rt.below ?_ (qR.alloc qL _)|refine Rt.below ?_ (below_drewN' qR _)|refine Rt.below ?_ (Below.drew qR)|assumption|exact CX.rt (Hid.out aM)))
end Nn
namespace Nn
open Go.RowKit
open Np
theorem rread_any(s:ByteArray)(hs:s.size≤80)(w:World)(Post:Ending→World→Prop)(h0:numP s.data.toList=none→∀w',Below w.heap.size w w'→Post (.returned (.tuple #[.agg #[.bool false,.slice none 0 0,.int .i64 0,.int .i64 0],.bool false])) w')(h1:∀mi wh fr em ds,numP s.data.toList=some (mi,wh,fr,em,ds)→∀G cap w',Dr (dig (wh++fr)) G w'→(dig (wh++fr)).length≤cap→Below w.heap.size w w'→Post (.returned (.tuple #[.agg #[.bool mi,.slice (some ⟨G,0,none⟩) (dig (wh++fr)).length cap,.int .i64 wh.length,.int .i64 (ev em 1000000000000 ds)],.bool true])) w'): Calls prog 10 #[.string s] w Post:=by
 refine rread_start s w Post ?_
 intro x hx
 have HO:=om_new w
 have HR:=rb_new w
 have hb:Below w.heap.size w ((w.alloc (.cells #[.bool false,.slice none 0 0,.int .i64 0,.int .i64 0] 37)).alloc (.cells #[.bool false,.slice none 0 0,.int .i64 0,.int .i64 0] 37)):=tq4
 generalize ((w.alloc (.cells #[.bool false,.slice none 0 0,.int .i64 0,.int .i64 0] 37)).alloc (.cells #[.bool false,.slice none 0 0,.int .i64 0,.int .i64 0] 37))=W1 at HO HR hb ⊢
 have e0:∀x' w' mi v P E Y,numP s.data.toList=none→RdE W1 w.heap.size (w.heap.size+1) false mi v P E Y x' w'→bodyPost prog f10 Post .ret x' w':=fun x' w' mi v P E Y hn h=>rd_fin0 W1 w _ _ hb qL oM mi v P E Y x' w' h Post (fun h2=>h0 hn _ h2)
 have e1:∀mi wh fr em ds,numP s.data.toList=some (mi,wh,fr,em,ds)→∀x' w' v,RdE W1 w.heap.size (w.heap.size+1) true mi v wh.length (ev em 1000000000000 ds) (dig (wh++fr)) x' w'→bodyPost prog f10 Post .ret x' w':=fun mi wh fr em ds hn x' w' v h=>rd_fin1 W1 w _ _ hb qL oM HR.lt mi v wh.length _ (dig (wh++fr)) (by have:=(numP_parts hn).w0;cases wh with|nil=>exact absurd rfl this|cons b l=>simp [dig]) x' w' h Post (fun G cap hD hc h2=>h1 mi wh fr em ds hn G cap w' hD hc h2)
 show Code.wp _ (Code.seq _ _) _ _ _
 refine wp_seq ?_
 refine rp2 rfl s hs _ _ x hx W1 _ _ ?_
 intro x2 hx2
 show Code.wp _ (Code.seq _ _) _ _ _
 refine wp_seq ?_
 by_cases z:s.size=0
 ·refine rp3e rfl s hs _ _ z x2 hx2 W1 _ _ ?_
  intro x3 hx3
  exact rread_body s hs _ _ W1 oM HR _ false 0 oM (by unfold nA;rw [if_neg (lat_end s 0 (by omega) 45)]) (decide_eq_false (lat_end s 0 oM 45)) x3 hx3 W1 HO (fun hn x' w' v P E Y h=>e0 x' w' _ v P E Y hn h) (fun wh fr em ds hn x' w' v h=>e1 _ wh fr em ds hn x' w' v h)
 have hz:0<s.size:=oM
 by_cases g:(s[0]'hz).toNat=45
 ·refine rp3m rfl s hs _ _ hz g x2 hx2 W1 HO.c0 HO.z0 _ _ ?_
  intro x3 hx3
  have e:=lat_eq s 0 hz 45 g
  exact rread_body s hs _ _ W1 oM HR _ true 1 oM (by unfold nA;rw [if_pos e]) (decide_eq_true e) x3 hx3 _ (HO.setM true) (fun hn x' w' v P E Y h=>e0 x' w' _ v P E Y hn h) (fun wh fr em ds hn x' w' v h=>e1 _ wh fr em ds hn x' w' v h)
 ·refine rp3o rfl s hs _ _ hz g x2 hx2 W1 _ _ ?_
  intro x3 hx3
  have e:=lat_ne s 0 hz 45 g
  exact rread_body s hs _ _ W1 oM HR _ false 0 oM (by unfold nA;rw [if_neg e]) (decide_eq_false e) x3 hx3 W1 HO (fun hn x' w' v P E Y h=>e0 x' w' _ v P E Y hn h) (fun wh fr em ds hn x' w' v h=>e1 _ wh fr em ds hn x' w' v h)
theorem rread_none(s:ByteArray)(hs:s.size≤80)(hn:numP s.data.toList=none)(w:World): Calls prog 10 #[.string s] w fun e w'=>e=.returned (.tuple #[.agg #[.bool false,.slice none 0 0,.int .i64 0,.int .i64 0],.bool false])∧Below w.heap.size w w':=
 rread_any s hs w _ (fun _ w' hb=>⟨rfl,hb⟩) (fun mi wh fr em ds h=>by rw [hn] at h;cases h)
theorem rread_some(s:ByteArray)(hs:s.size≤80){mi:Bool}{wh fr:List UInt8}{em:Bool}{ds:List UInt8}(hn:numP s.data.toList=some (mi,wh,fr,em,ds))(w:World): Calls prog 10 #[.string s] w fun e w'=>∃G cap,e=.returned (.tuple #[.agg #[.bool mi,.slice (some ⟨G,0,none⟩) (dig (wh++fr)).length cap,.int .i64 wh.length,.int .i64 (ev em 1000000000000 ds)],.bool true])∧Dr (dig (wh++fr)) G w'∧(dig (wh++fr)).length≤cap∧Below w.heap.size w w':=
 rread_any s hs w _ (fun h=>by rw [hn] at h;cases h) (fun mi' wh' fr' em' ds' h G cap w' h1 h2 h3=>by
  rw [hn] at h;injection h with h;injection h with e1 h;injection h with e2 h;injection h with e3 h;injection h with e4 e5
  subst e1 e2 e3 e4 e5
  exact ⟨G,cap,rfl,h1,h2,h3⟩)
theorem ris_any(s:ByteArray)(hs:s.size≤80)(w:World): Calls prog 5 #[.string s] w fun e w'=>e=.returned (.bool (numP s.data.toList).isSome)∧Below w.heap.size w w':=by
 cases hn:numP s.data.toList with
 | none=>
  have hr:=fun W=>rread_none s hs hn W
  go_enter func5,ntmps5
  go_wp2_with fail
  refine (hr _).mono ?_;rintro e w1 ⟨rfl,hb⟩
  go_wp2_with fail
  go_ret
  exact ⟨rfl,hb.alloc hb.size _⟩
 | some y=>
  obtain ⟨mi,wh,fr,em,ds⟩ :=y
  have hr:=fun W=>rread_some s hs hn W
  go_enter func5,ntmps5
  go_wp2_with fail
  refine (hr _).mono ?_;rintro e w1 ⟨G,cap,rfl,-,-,hb⟩
  go_wp2_with fail
  go_ret
  exact ⟨rfl,hb.alloc hb.size _⟩
structure CK (w0:World) (m:Bool) (A:List Nat) (g c:Nat) (P E:Int) (p:Nat) (W:World):Prop where
 a:Nb m A g c P E p W
 l:Below w0.heap.size w0 W
theorem ck_below{w0 W:World}{m:Bool}{A:List Nat}{g c:Nat}{P E:Int}{p:Nat}{W':World}(h:Hid (CK w0 m A g c P E p W))(hb:Below W.heap.size W W'): Hid (CK w0 m A g c P E p W'):=hid ⟨h.out.a.below hb,h.out.l.trans (hb.mono h.out.l.size)⟩
theorem ck_drew{w0 W:World}{m:Bool}{A:List Nat}{g c:Nat}{P E:Int}{p:Nat}(h:Hid (CK w0 m A g c P E p W)): Hid (CK w0 m A g c P E p W.drew):=ck_below h qR.drew
theorem ck_alloc{w0 W:World}{m:Bool}{A:List Nat}{g c:Nat}{P E:Int}{p:Nat}(h:Hid (CK w0 m A g c P E p W))(o:Obj): Hid (CK w0 m A g c P E p (W.alloc o)):=ck_below h (qR.alloc qL o)
theorem ck_held{w0 W:World}{m:Bool}{A:List Nat}{g c:Nat}{P E:Int}{p:Nat}(h:Hid (CK w0 m A g c P E p W)): W.cell? ⟨p,0,none⟩=some (.bool m)∧W.cell? ⟨p,1,none⟩=some (.slice (some ⟨g,0,none⟩) A.length c)∧W.cell? ⟨p,2,none⟩=some (.int .i64 P)∧W.cell? ⟨p,3,none⟩=some (.int .i64 E)∧Hid (CK w0 m A g c P E p W):=⟨h.out.a.c0,h.out.a.c1,h.out.a.c2,h.out.a.c3,h⟩
theorem ck_d(w0:World)(m:Bool)(A:List Nat)(g c:Nat)(P E:Int)(p:Nat){W:World}(h:Hid (CK w0 m A g c P E p W)): Dr A g W:=h.out.a.d
theorem ev_bd(em:Bool)(ds:List UInt8): -2000000000000≤ev em 1000000000000 ds∧ev em 1000000000000 ds≤2000000000000:=by
 have:=cut_le 1000000000000 ds
 unfold ev;split <;> omega
theorem rcmp_any(s:ByteArray)(hs:s.size≤80)(n:Int)(hn:n.natAbs<10 ^ 16){mi:Bool}{wh fr:List UInt8}{em:Bool}{ds:List UInt8}(hp:numP s.data.toList=some (mi,wh,fr,em,ds))(hwl:wh.length+fr.length≤80)(w0:World): Calls prog 6 #[.string s,.int .i64 n] w0 fun e w'=>e=.returned (.int .i64 (rcmp mi wh fr em ds n))∧Below w0.heap.size w0 w':=by
 have hr:=fun W=>rread_some s hs hp W
 have ho:=fun W=>rof_any n hn W
 have hnl:=nds_len n hn
 have hnd:(dig (nds n)).length=(nds n).length:=by simp [dig]
 have hel:(dig (wh++fr)).length≤1000:=by simp [dig];omega
 have hev:=ev_bd em ds
 obtain ⟨E,hE⟩:∃E,ev em 1000000000000 ds=E:=⟨_,rfl⟩
 obtain ⟨P,hP⟩:∃P:Int,(wh.length:Int)=P:=⟨_,rfl⟩
 have hPb:0≤P∧P≤1000:=oM
 obtain ⟨Z,hZ⟩:∃Z,rcmp mi wh fr em ds n=Z:=⟨_,rfl⟩
 have HZ:Hid (rless mi (dig (wh++fr)) (P+E) (decide (n<0)) (dig (nds n)) ((dig (nds n)).length+0)=Z):=hid (by rw [←hZ,←hE,←hP,hnd];unfold rcmp;simp)
 rw [hE,hP] at hr
 rw [hZ]
 rw [hE] at hev
 rw [←hnd] at ho
 clear hp hwl hE hP hZ
 generalize dig (wh++fr)=A at hr HZ hel
 generalize dig (nds n)=B at ho HZ hnd
 generalize decide (n<0)=sg at ho HZ
 go_enter func6,ntmps6
 go_wp2_with fail
 refine (hr _).mono ?_;rintro e w1 ⟨g,c,rfl,hD,hc,hb⟩
 go_wp2_with fail
 have HC:Hid (CK w0 mi A g c P E w1.heap.size (w1.alloc (.cells #[.bool mi,.slice (some ⟨g,0,none⟩) A.length c,.int .i64 P,.int .i64 E] 37))):=hid ⟨⟨by simp,by simp [go_sem],by simp [go_sem],by simp [go_sem],by simp [go_sem],hD.below (qR.alloc qL _)⟩,hb.alloc hb.size _⟩
 generalize (w1.alloc (.cells #[.bool mi,.slice (some ⟨g,0,none⟩) A.length c,.int .i64 P,.int .i64 E] 37))=W at HC ⊢
 generalize w1.heap.size=p at HC ⊢
 obtain ⟨a0,a1,a2,a3,-⟩ :=ck_held HC
 clear hD hb hr
 have hBl:B.length≤1000:=oM
 clear hnd hnl
 have hL:∀(g9 c9:Nat) (W:World),B.length≤c9→Dr A g W→Dr B g9 W→Calls prog 11 #[.agg #[.bool mi,.slice (some ⟨g,0,none⟩) A.length c,.int .i64 P,.int .i64 E],.agg #[.bool sg,.slice (some ⟨g9,0,none⟩) B.length c9,.int .i64 (B.length:Nat),.int .i64 0]] W fun e w'=>e=.returned (.int .i64 Z)∧Below W.heap.size W w':=fun g9 c9 W h1 h2 h3=>by
  have:=rless_any mi A g c P E sg B g9 c9 (B.length:Int) 0 hel hc hPb hev hBl h1 oM oM W h2 h3
  rw [HZ.out] at this
  exact this
 go_region_held3 (fun w'=>(w').cell? ⟨p,0,none⟩=some (.bool mi)∧(w').cell? ⟨p,1,none⟩=some (.slice (some ⟨g,0,none⟩) A.length c)∧(w').cell? ⟨p,2,none⟩=some (.int .i64 P)∧(w').cell? ⟨p,3,none⟩=some (.int .i64 E)∧Hid (CK w0 mi A g c P E p w')) (first|exact ck_held (by repeat' (first|assumption|refine ck_drew ?_|refine ck_alloc ?_ _))) (first|(go_at_call 12;refine (ho _).mono ?_;rintro e w9 ⟨g9,c9,rfl,hD9,hc9,hb⟩;have HC9:=ck_below (w0:=w0) (p:=p) (m:=mi) (A:=A) (g:=g) (c:=c) (P:=P) (E:=E) (by repeat' (first|assumption|refine ck_drew ?_|refine ck_alloc ?_ _)) hb;clear hb)|(go_at_call 11;refine (hL g9 c9 _ hc9 (ck_d w0 mi A g c P E p (by repeat' (first|assumption|refine ck_drew ?_|refine ck_alloc ?_ _))) (by first|assumption|exact hD9.below qR.drew)).mono ?_;rintro e w8 ⟨rfl,hb⟩;have HC8:=ck_below (w0:=w0) (p:=p) (m:=mi) (A:=A) (g:=g) (c:=c) (P:=P) (E:=E) (by repeat' (first|assumption|refine ck_drew ?_|refine ck_alloc ?_ _)) hb;clear hb hD9 HC9))
 all_goals
  go_wp2_with fail
  go_ret
  exact ⟨rfl,HC8.out.l⟩
end Nn
end Go.Proofs.YtjcioljdlfdnbaaGreatDoor
