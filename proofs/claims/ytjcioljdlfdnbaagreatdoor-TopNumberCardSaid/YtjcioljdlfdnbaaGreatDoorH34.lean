/- Part 34: lemmas for TopNumber; no conditions. -/
import Derived.Test.YtjcioljdlfdnbaaGreatDoorH33
set_option linter.unusedVariables false
set_option linter.unusedSimpArgs false
set_option maxRecDepth 100000
set_option maxHeartbeats 2000000
open Go.Proofs.Tryz
namespace Go.Proofs.YtjcioljdlfdnbaaGreatDoor
namespace Nn
open Go.RowKit
theorem turned_y(i:Nat)(hi:i<6)(w:World): Calls prog 281 #[.int .i64 (i:Nat)] w fun e w'=>e=.returned (.int .i64 (trn i:Nat))∧w=w':=by
 obtain rfl|rfl|rfl|rfl|rfl|rfl:i=0∨i=1∨i=2∨i=3∨i=4∨i=5:=oM
 ·have hX:∀w:World,(Instr.index 423 (.agg #[.int .i64 0,.int .i64 1,.int .i64 4,.int .i64 5,.int .i64 2,.int .i64 3]) (.int .i64 0)).run prog w=.ok (.int .i64 0) w:=fun _=>by kernel_rfl
  go_enter func281,ntmps281
  go_wp2_with fail
  go_ret
  exact ⟨rfl,rfl⟩
 ·have hX:∀w:World,(Instr.index 423 (.agg #[.int .i64 0,.int .i64 1,.int .i64 4,.int .i64 5,.int .i64 2,.int .i64 3]) (.int .i64 1)).run prog w=.ok (.int .i64 1) w:=fun _=>by kernel_rfl
  go_enter func281,ntmps281
  go_wp2_with fail
  go_ret
  exact ⟨rfl,rfl⟩
 ·have hX:∀w:World,(Instr.index 423 (.agg #[.int .i64 0,.int .i64 1,.int .i64 4,.int .i64 5,.int .i64 2,.int .i64 3]) (.int .i64 2)).run prog w=.ok (.int .i64 4) w:=fun _=>by kernel_rfl
  go_enter func281,ntmps281
  go_wp2_with fail
  go_ret
  exact ⟨rfl,rfl⟩
 ·have hX:∀w:World,(Instr.index 423 (.agg #[.int .i64 0,.int .i64 1,.int .i64 4,.int .i64 5,.int .i64 2,.int .i64 3]) (.int .i64 3)).run prog w=.ok (.int .i64 5) w:=fun _=>by kernel_rfl
  go_enter func281,ntmps281
  go_wp2_with fail
  go_ret
  exact ⟨rfl,rfl⟩
 ·have hX:∀w:World,(Instr.index 423 (.agg #[.int .i64 0,.int .i64 1,.int .i64 4,.int .i64 5,.int .i64 2,.int .i64 3]) (.int .i64 4)).run prog w=.ok (.int .i64 2) w:=fun _=>by kernel_rfl
  go_enter func281,ntmps281
  go_wp2_with fail
  go_ret
  exact ⟨rfl,rfl⟩
 ·have hX:∀w:World,(Instr.index 423 (.agg #[.int .i64 0,.int .i64 1,.int .i64 4,.int .i64 5,.int .i64 2,.int .i64 3]) (.int .i64 5)).run prog w=.ok (.int .i64 3) w:=fun _=>by kernel_rfl
  go_enter func281,ntmps281
  go_wp2_with fail
  go_ret
  exact ⟨rfl,rfl⟩
theorem cr3{c:Code}(hc:regionOf (bodyOf f220) 3=some c)(M:Value)(X L P b:Nat)(hbL:b≤L)(hbP:b≤P)(i:Nat)(hi:i<6)(n:Int)(x:Act)(hx:Fz 37 [(0,M),(3,.pointer (some ⟨X,0,none⟩)),(4,.pointer (some ⟨L,0,none⟩)),(5,.pointer (some ⟨P,0,none⟩)),(6,.int .i64 (i:Nat))] x)(W:World)(l0:W.cell? ⟨L,0,none⟩=some (.bool false))(y0:W.frozen? ⟨L,0,none⟩=false)(x0:W.cell? ⟨X,5,none⟩=some (.bool true))(l1:W.cell? ⟨L,1,none⟩=some (.int .i64 0))(y1:W.frozen? ⟨L,1,none⟩=false)(x1:W.cell? ⟨X,6,none⟩=some (.int .i64 2))(l2:W.cell? ⟨L,2,none⟩=some (.int .i64 0))(y2:W.frozen? ⟨L,2,none⟩=false)(x2:W.cell? ⟨X,7,none⟩=some (.int .i64 n))(l3:W.cell? ⟨L,3,none⟩=some (.string ⟨#[]⟩))(y3:W.frozen? ⟨L,3,none⟩=false)(x3:W.cell? ⟨X,8,none⟩=some (.string ⟨#[]⟩))(l4:W.cell? ⟨L,4,none⟩=some (.bool false))(y4:W.frozen? ⟨L,4,none⟩=false)(x4:W.cell? ⟨X,9,none⟩=some (.bool false))(l5:W.cell? ⟨L,5,none⟩=some (.slice none 0 0))(y5:W.frozen? ⟨L,5,none⟩=false)(x5:W.cell? ⟨X,10,none⟩=some (.slice none 0 0))(x6:W.cell? ⟨X,15,none⟩=some (.bool false))(x7:W.cell? ⟨X,16,none⟩=some (.slice none 0 0))(p0:W.cell? ⟨P,0,none⟩=some (.bool false))(p1:W.cell? ⟨P,1,none⟩=some (.slice none 0 0))(q0:W.frozen? ⟨P,0,none⟩=false)(q1:W.frozen? ⟨P,1,none⟩=false)(LP:¬L=P)(PL:¬P=L)(LX:¬L=X)(PX:¬P=X)(XL:¬X=L)(XP:¬X=P)(K:Act→World→Prop)(Q:Exit→Act→World→Prop)(hk:∀x' W',Fz 37 [(0,M),(4,.pointer (some ⟨L,0,none⟩)),(5,.pointer (some ⟨P,0,none⟩)),(6,.int .i64 (trn i:Nat))] x'→(W'.cell? ⟨L,1,none⟩=some (.int .i64 2)∧W'.cell? ⟨L,2,none⟩=some (.int .i64 n)∧W'.cell? ⟨L,3,none⟩=some (.string ⟨#[]⟩))→(W'.cell? ⟨P,0,none⟩=some (.bool false)∧W'.cell? ⟨P,1,none⟩=some (.slice none 0 0))→Below b W W'→K x' W'): c.wp prog (Exit.then K Q) x W:=by
 injection (show some c=some _ from hc.symm.trans rfl) with hc
 subst hc
 have HK:=hid hk
 clear hk
 have k0:=hx.at 0 M sM
 have k3:=hx.at 3 (.pointer (some ⟨X,0,none⟩)) sM
 have k4:=hx.at 4 (.pointer (some ⟨L,0,none⟩)) sM
 have k5:=hx.at 5 (.pointer (some ⟨P,0,none⟩)) sM
 have k6:=hx.at 6 (.int .i64 (i:Nat)) sM
 have e:=hx.lit37
 rw [e];simp only [k0,k3,k4,k5,k6]
 clear hx e k0 k3 k4 k5 k6
 have gen:=qG x
 obtain ⟨u,hu⟩ :=gen
 simp only [hu]
 clear hu x
 refine wp_region_noPanic ?_
 go_region_law ((first|(go_simp;go_at_call 281;refine (turned_y i hi _).mono ?_;rintro e w9 ⟨rfl,rfl⟩)))
 all_goals refine NoPanic.normal ?_
 all_goals exact HK.out _ _ (Fz.cons (Fz.cons (Fz.cons (Fz.cons (Fz.mk0 37 _ rfl) 6 _ rfl) 5 _ rfl) 4 _ rfl) 0 _ rfl) ⟨by simp [go_sem,l1,LP,PL],by simp [go_sem,l2,LP,PL],by simp [go_sem,l3,LP,PL]⟩ ⟨by simp [go_sem,p0,LP,PL],by simp [go_sem,p1,LP,PL]⟩ (by repeat' (first|with_reducible refine Below.drew ?_|with_reducible refine Below.setCell ?_ aM _|with_reducible exact qR))
theorem cr4{c:Code}(hc:regionOf (bodyOf f220) 4=some c)(b0 m L P:Nat)(A:Array Value)(v4 v3:Value)(n4 n3:Nat)(xs4 xs3:List Value)(R:List Row)(sg n:Int)(h4:n4<900)(h3:n3<900)(w W0:World)(hH:Hid (MK b0 m 178 A (⟨4,118,2,v4,n4,xs4⟩ ::⟨3,290,7,v3,n3,xs3⟩ ::R) w))(hB:Hid (Below w.heap.size w W0))(x:Act)(hx:Fz 37 [(0,.pointer (some ⟨m,0,none⟩)),(4,.pointer (some ⟨L,0,none⟩)),(5,.pointer (some ⟨P,0,none⟩)),(6,.int .i64 sg)] x)(t1:W0.cell? ⟨L,1,none⟩=some (.int .i64 2))(t2:W0.cell? ⟨L,2,none⟩=some (.int .i64 n))(t3:W0.cell? ⟨L,3,none⟩=some (.string ⟨#[]⟩))(p0:W0.cell? ⟨P,0,none⟩=some (.bool false))(p1:W0.cell? ⟨P,1,none⟩=some (.slice none 0 0))(Ll:L<W0.heap.size)(Pl:P<W0.heap.size)(hLw:w.heap.size≤L)(hPw:w.heap.size≤P)(Q:Exit→Act→World→Prop)(hk:∀x' w',Fz 37 [] x'→CmpP b0 m A v4 v3 n4 n3 xs4 xs3 R sg 2 n w (.returned (.tuple #[])) w'→Q .normal x' w'): c.wp prog Q x W0:=by
 injection (show some c=some _ from hc.symm.trans rfl) with hc
 subst hc
 have HK:=hid hk
 clear hk
 have hb:=hH.out.b
 have hl:=hH.out.lt
 have hbw:b0≤w.heap.size:=oM
 have H1:=hid (hH.out.below hB.out)
 have k0:=hx.at 0 (.pointer (some ⟨m,0,none⟩)) sM
 have k4:=hx.at 4 (.pointer (some ⟨L,0,none⟩)) sM
 have k5:=hx.at 5 (.pointer (some ⟨P,0,none⟩)) sM
 have k6:=hx.at 6 (.int .i64 sg) sM
 have e:=hx.lit37
 rw [e];simp only [k0,k4,k5,k6]
 clear hx e k0 k4 k5 k6
 have gen:=qG x
 obtain ⟨u,hu⟩ :=gen
 simp only [hu]
 clear hu x
 refine wp_region_noPanic ?_
 have HS0:Hid (Sm W0 L P W0):=hid ⟨qL,rfl,rfl⟩
 have own4:∀k,w.heap.size≤k→v4.ownBlock≠some k:=fun k hk e=>by have:=((hH.out.r _ (.head _)).1.lt k e).2;omega
 have own3:∀k,w.heap.size≤k→v3.ownBlock≠some k:=fun k hk e=>by have:=((hH.out.r _ (.tail _ (.head _))).1.lt k e).2;omega
 have l4:=own4 L hLw
 have p4:=own4 P hPw
 have l3:=own3 L hLw
 have p3:=own3 P hPw
 have lm:L≠m:=oM
 have pm:P≠m:=oM
 go_region_held3 (fun w'=>(w').cell? ⟨L,1,none⟩=some (.int .i64 2)∧(w').cell? ⟨L,2,none⟩=some (.int .i64 n)∧(w').cell? ⟨L,3,none⟩=some (.string ⟨#[]⟩)∧(w').cell? ⟨P,0,none⟩=some (.bool false)∧(w').cell? ⟨P,1,none⟩=some (.slice none 0 0)∧Hid (Sm W0 L P w')) (first|exact lit_held t1 t2 t3 p0 p1 (by first|assumption|exact Sm.drew aM)) (first|(go_at_call 219;refine (number_x b0 m A v4 n4 xs4 (⟨3,290,7,v3,n3,xs3⟩ ::R) h4 _ (by first|exact H1.out|exact H1.out.below qR.drew)).mono ?_;rintro e w9 ⟨g4,c4,rfl,hm9,hb9,hf9⟩;have HN:=hid hm9;have HF9:=hid (And.intro hb9 hf9);have HS9:Hid (Sm W0 L P w9):=Sm.next HS0 Ll Pl lm pm l4 p4 hb9.size hf9;clear hm9 hb9 hf9)|(go_at_call 157;refine (put_x b0 m _ v3 n3 xs3 (⟨4,118,2,.slice (some ⟨g4,0,none⟩) (n4+1) c4,n4+1,xs4++[.bool false,.slice none 0 0]⟩ ::R) 1 (n4:Nat) sg 2 n h3 _ (by first|exact HN.out.swap|exact (HN.out.below qR.drew).swap)).mono ?_;rintro e w8 ⟨g3,c3,rfl,hm8,hb8,hf8⟩;have HM:=hid hm8;have HF8:=hid (And.intro hb8 hf8);have:Hid (Sm W0 L P w8):=Sm.next HS9 Ll Pl lm pm l3 p3 hb8.size hf8;clear hm8 hb8 hf8))
 all_goals refine NoPanic.normal ?_
 all_goals
  have bA:Below b0 W0 w9:=by first|exact HF9.out.1|exact (Below.refl b0 W0).drew.trans HF9.out.1
  have bB:Below b0 w9 w8:=by first|exact HF8.out.1|exact (Below.refl b0 w9).drew.trans HF8.out.1
  have s0:=hB.out.size
  have s9:=bA.size
  refine HK.out _ _ (Fz.mk0 37 _ rfl) ⟨rfl,g4,c4,g3,c3,HM.out,((hB.out.mono hbw).trans bA).trans bB,fun k hk hm h1 h2=>?_⟩
  exact (HF8.out.2 k (show k<w9.heap.size by omega) hm h2).trans ((HF9.out.2 k (show k<W0.heap.size by omega) hm h1).trans (hB.out.block k hk))
theorem ccmp_b(b0 m:Nat)(A:Array Value)(v4 v3:Value)(n4 n3:Nat)(xs4 xs3:List Value)(R:List Row)(i:Nat)(hi:i<6)(n:Int)(h4:n4<900)(h3:n3<900)(w:World)(h:MK b0 m 178 A (⟨4,118,2,v4,n4,xs4⟩ ::⟨3,290,7,v3,n3,xs3⟩ ::R) w): Calls prog 220 #[.pointer (some ⟨m,0,none⟩),.agg #[.int .i64 4,.slice none 0 0,.bool false,.slice none 0 0,.int .i64 (i:Nat),.bool true,.int .i64 2,.int .i64 n,.string ⟨#[]⟩,.bool false,.slice none 0 0,.bool false,.int .i64 0,.int .i64 0,.string ⟨#[]⟩,.bool false,.slice none 0 0]] w fun e w'=>CmpP b0 m A v4 v3 n4 n3 xs4 xs3 R (trn i:Nat) 2 n w e w':=by
 have hH:=hid h
 have hb:=h.b
 have hl:=h.lt
 have:b0≤w.heap.size:=oM
 clear h
 go_enter func220,ntmps220
 go_wp2_with fail
 go_region
 all_goals go_wp2_with fail
 all_goals first
  | (
    generalize hW:World.drew _=W0
    have hB:Hid (Below w.heap.size w W0):=hid (by rw [←hW];(repeat' (first|refine Below.setCell ?_ tq3 _|refine Below.alloc ?_ tq3 _|refine below_drewN' ?_ _|refine Below.drew ?_|exact Hid.out aM|exact qR)))
    have l0:W0.cell? ⟨w.heap.size+1+1,0,none⟩=some (.bool false):=by rw [←hW];simp [go_sem]
    have y0:W0.frozen? ⟨w.heap.size+1+1,0,none⟩=false:=by rw [←hW];simp [go_sem]
    have x0:W0.cell? ⟨w.heap.size,5,none⟩=some (.bool true):=by rw [←hW];simp [go_sem]
    have l1:W0.cell? ⟨w.heap.size+1+1,1,none⟩=some (.int .i64 0):=by rw [←hW];simp [go_sem]
    have y1:W0.frozen? ⟨w.heap.size+1+1,1,none⟩=false:=by rw [←hW];simp [go_sem]
    have x1:W0.cell? ⟨w.heap.size,6,none⟩=some (.int .i64 2):=by rw [←hW];simp [go_sem]
    have l2:W0.cell? ⟨w.heap.size+1+1,2,none⟩=some (.int .i64 0):=by rw [←hW];simp [go_sem]
    have y2:W0.frozen? ⟨w.heap.size+1+1,2,none⟩=false:=by rw [←hW];simp [go_sem]
    have x2:W0.cell? ⟨w.heap.size,7,none⟩=some (.int .i64 n):=by rw [←hW];simp [go_sem]
    have l3:W0.cell? ⟨w.heap.size+1+1,3,none⟩=some (.string ⟨#[]⟩):=by rw [←hW];simp [go_sem]
    have y3:W0.frozen? ⟨w.heap.size+1+1,3,none⟩=false:=by rw [←hW];simp [go_sem]
    have x3:W0.cell? ⟨w.heap.size,8,none⟩=some (.string ⟨#[]⟩):=by rw [←hW];simp [go_sem]
    have l4:W0.cell? ⟨w.heap.size+1+1,4,none⟩=some (.bool false):=by rw [←hW];simp [go_sem]
    have y4:W0.frozen? ⟨w.heap.size+1+1,4,none⟩=false:=by rw [←hW];simp [go_sem]
    have x4:W0.cell? ⟨w.heap.size,9,none⟩=some (.bool false):=by rw [←hW];simp [go_sem]
    have l5:W0.cell? ⟨w.heap.size+1+1,5,none⟩=some (.slice none 0 0):=by rw [←hW];simp [go_sem]
    have y5:W0.frozen? ⟨w.heap.size+1+1,5,none⟩=false:=by rw [←hW];simp [go_sem]
    have x5:W0.cell? ⟨w.heap.size,10,none⟩=some (.slice none 0 0):=by rw [←hW];simp [go_sem]
    have x6:W0.cell? ⟨w.heap.size,15,none⟩=some (.bool false):=by rw [←hW];simp [go_sem]
    have x7:W0.cell? ⟨w.heap.size,16,none⟩=some (.slice none 0 0):=by rw [←hW];simp [go_sem]
    have p0:W0.cell? ⟨w.heap.size+1,0,none⟩=some (.bool false):=by rw [←hW];simp [go_sem]
    have q0:W0.frozen? ⟨w.heap.size+1,0,none⟩=false:=by rw [←hW];simp [go_sem]
    have p1:W0.cell? ⟨w.heap.size+1,1,none⟩=some (.slice none 0 0):=by rw [←hW];simp [go_sem]
    have q1:W0.frozen? ⟨w.heap.size+1,1,none⟩=false:=by rw [←hW];simp [go_sem]
    have Ll:w.heap.size+1+1<W0.heap.size:=by rw [←hW];simp <;> omega
    have Pl:w.heap.size+1<W0.heap.size:=by rw [←hW];simp <;> omega
    have Xl:w.heap.size<W0.heap.size:=oM
    have hLw:w.heap.size≤w.heap.size+1+1:=oM
    have hPw:w.heap.size≤w.heap.size+1:=oM
    have LP:¬w.heap.size+1+1=w.heap.size+1:=oM
    have PL:¬w.heap.size+1=w.heap.size+1+1:=oM
    have LX:¬w.heap.size+1+1=w.heap.size:=oM
    have PX:¬w.heap.size+1=w.heap.size:=oM
    have XL:¬w.heap.size=w.heap.size+1+1:=oM
    have XP:¬w.heap.size=w.heap.size+1:=oM
    clear hW
    generalize e2:w.heap.size+1+1=b2 at l0 y0 l1 y1 l2 y2 l3 y3 l4 y4 l5 y5 p0 p1 q0 q1 Ll Pl hLw hPw LP PL LX PX XL XP ⊢
    generalize e1:w.heap.size+1=b1 at l0 y0 l1 y1 l2 y2 l3 y3 l4 y4 l5 y5 p0 p1 q0 q1 Ll Pl hLw hPw LP PL LX PX XL XP ⊢
    clear e1 e2
    obtain ⟨L,hLe⟩:∃L,L=b2:=⟨_,rfl⟩
    obtain ⟨P,hPe⟩:∃P,P=b1:=⟨_,rfl⟩
    rw [←hLe] at l0 l1 l2 l3 l4 l5 y0 y1 y2 y3 y4 y5 Ll hLw LP PL LX XL ⊢
    rw [←hPe] at p0 p1 q0 q1 Pl hPw LP PL PX XP ⊢
    clear hLe hPe)
  | (
    generalize hW:World.drew _=W0
    have hB:Hid (Below w.heap.size w W0):=hid (by rw [←hW];(repeat' (first|refine Below.setCell ?_ tq3 _|refine Below.alloc ?_ tq3 _|refine below_drewN' ?_ _|refine Below.drew ?_|exact Hid.out aM|exact qR)))
    have l0:W0.cell? ⟨w.heap.size+1,0,none⟩=some (.bool false):=by rw [←hW];simp [go_sem]
    have y0:W0.frozen? ⟨w.heap.size+1,0,none⟩=false:=by rw [←hW];simp [go_sem]
    have x0:W0.cell? ⟨w.heap.size,5,none⟩=some (.bool true):=by rw [←hW];simp [go_sem]
    have l1:W0.cell? ⟨w.heap.size+1,1,none⟩=some (.int .i64 0):=by rw [←hW];simp [go_sem]
    have y1:W0.frozen? ⟨w.heap.size+1,1,none⟩=false:=by rw [←hW];simp [go_sem]
    have x1:W0.cell? ⟨w.heap.size,6,none⟩=some (.int .i64 2):=by rw [←hW];simp [go_sem]
    have l2:W0.cell? ⟨w.heap.size+1,2,none⟩=some (.int .i64 0):=by rw [←hW];simp [go_sem]
    have y2:W0.frozen? ⟨w.heap.size+1,2,none⟩=false:=by rw [←hW];simp [go_sem]
    have x2:W0.cell? ⟨w.heap.size,7,none⟩=some (.int .i64 n):=by rw [←hW];simp [go_sem]
    have l3:W0.cell? ⟨w.heap.size+1,3,none⟩=some (.string ⟨#[]⟩):=by rw [←hW];simp [go_sem]
    have y3:W0.frozen? ⟨w.heap.size+1,3,none⟩=false:=by rw [←hW];simp [go_sem]
    have x3:W0.cell? ⟨w.heap.size,8,none⟩=some (.string ⟨#[]⟩):=by rw [←hW];simp [go_sem]
    have l4:W0.cell? ⟨w.heap.size+1,4,none⟩=some (.bool false):=by rw [←hW];simp [go_sem]
    have y4:W0.frozen? ⟨w.heap.size+1,4,none⟩=false:=by rw [←hW];simp [go_sem]
    have x4:W0.cell? ⟨w.heap.size,9,none⟩=some (.bool false):=by rw [←hW];simp [go_sem]
    have l5:W0.cell? ⟨w.heap.size+1,5,none⟩=some (.slice none 0 0):=by rw [←hW];simp [go_sem]
    have y5:W0.frozen? ⟨w.heap.size+1,5,none⟩=false:=by rw [←hW];simp [go_sem]
    have x5:W0.cell? ⟨w.heap.size,10,none⟩=some (.slice none 0 0):=by rw [←hW];simp [go_sem]
    have x6:W0.cell? ⟨w.heap.size,15,none⟩=some (.bool false):=by rw [←hW];simp [go_sem]
    have x7:W0.cell? ⟨w.heap.size,16,none⟩=some (.slice none 0 0):=by rw [←hW];simp [go_sem]
    have p0:W0.cell? ⟨w.heap.size+1+1,0,none⟩=some (.bool false):=by rw [←hW];simp [go_sem]
    have q0:W0.frozen? ⟨w.heap.size+1+1,0,none⟩=false:=by rw [←hW];simp [go_sem]
    have p1:W0.cell? ⟨w.heap.size+1+1,1,none⟩=some (.slice none 0 0):=by rw [←hW];simp [go_sem]
    have q1:W0.frozen? ⟨w.heap.size+1+1,1,none⟩=false:=by rw [←hW];simp [go_sem]
    have Ll:w.heap.size+1<W0.heap.size:=by rw [←hW];simp <;> omega
    have Pl:w.heap.size+1+1<W0.heap.size:=by rw [←hW];simp <;> omega
    have Xl:w.heap.size<W0.heap.size:=oM
    have hLw:w.heap.size≤w.heap.size+1:=oM
    have hPw:w.heap.size≤w.heap.size+1+1:=oM
    have LP:¬w.heap.size+1=w.heap.size+1+1:=oM
    have PL:¬w.heap.size+1+1=w.heap.size+1:=oM
    have LX:¬w.heap.size+1=w.heap.size:=oM
    have PX:¬w.heap.size+1+1=w.heap.size:=oM
    have XL:¬w.heap.size=w.heap.size+1:=oM
    have XP:¬w.heap.size=w.heap.size+1+1:=oM
    clear hW
    generalize e2:w.heap.size+1+1=b2 at l0 y0 l1 y1 l2 y2 l3 y3 l4 y4 l5 y5 p0 p1 q0 q1 Ll Pl hLw hPw LP PL LX PX XL XP ⊢
    generalize e1:w.heap.size+1=b1 at l0 y0 l1 y1 l2 y2 l3 y3 l4 y4 l5 y5 p0 p1 q0 q1 Ll Pl hLw hPw LP PL LX PX XL XP ⊢
    clear e1 e2
    obtain ⟨L,hLe⟩:∃L,L=b1:=⟨_,rfl⟩
    obtain ⟨P,hPe⟩:∃P,P=b2:=⟨_,rfl⟩
    rw [←hLe] at l0 l1 l2 l3 l4 l5 y0 y1 y2 y3 y4 y5 Ll hLw LP PL LX XL ⊢
    rw [←hPe] at p0 p1 q0 q1 Pl hPw LP PL PX XP ⊢
    clear hLe hPe)
 all_goals
  refine cr3 rfl (.pointer (some ⟨m,0,none⟩)) w.heap.size L P w.heap.size hLw hPw i hi n _ (Fz.cons (Fz.cons (Fz.cons (Fz.cons (Fz.cons (Fz.mk0 37 _ rfl) 6 _ rfl) 5 _ rfl) 4 _ rfl) 3 _ rfl) 0 _ rfl) W0 l0 y0 x0 l1 y1 x1 l2 y2 x2 l3 y3 x3 l4 y4 x4 l5 y5 x5 x6 x7 p0 p1 q0 q1 LP PL LX PX XL XP _ _ ?_
  intro x' W1 hx' ht hp hbel
  rename_i K hK
  refine hK _ _ ?_
  refine cr4 rfl b0 m L P A v4 v3 n4 n3 xs4 xs3 R (trn i:Nat) n h4 h3 w W1 hH (hid (hB.out.trans hbel)) x' (hx'.sub sM) ht.1 ht.2.1 ht.2.2 hp.1 hp.2 (Nat.lt_of_lt_of_le Ll hbel.size) (Nat.lt_of_lt_of_le Pl hbel.size) hLw hPw _ ?_
  intro x2 w2 hx2 hC
  exact bodyPost_end (v:=.tuple #[]) (by simp [results,results220,go_sem]) hx2.1 hC
theorem cexpr_a(b0 m:Nat)(A:Array Value)(v4 v3:Value)(n4 n3:Nat)(xs4 xs3:List Value)(R:List Row)(i n:Int)(h4:n4<900)(h3:n3<900)(w:World)(h:MK b0 m 178 A (⟨4,118,2,v4,n4,xs4⟩ ::⟨3,290,7,v3,n3,xs3⟩ ::R) w): Calls prog 156 #[.pointer (some ⟨m,0,none⟩),.agg #[.int .i64 4,.slice none 0 0,.bool false,.slice none 0 0,.int .i64 i,.bool false,.int .i64 0,.int .i64 0,.string ⟨#[]⟩,.bool false,.slice none 0 0,.bool true,.int .i64 2,.int .i64 n,.string ⟨#[]⟩,.bool false,.slice none 0 0]] w fun e w'=>CmpP b0 m A v4 v3 n4 n3 xs4 xs3 R i 2 n w e w':=by
 have hb:=h.b
 have hl:=h.lt
 have hbw:b0≤w.heap.size:=oM
 have hB:=hid ((Below.refl w.heap.size w).alloc qL (.cells #[.int .i64 4,.slice none 0 0,.bool false,.slice none 0 0,.int .i64 i,.bool false,.int .i64 0,.int .i64 0,.string ⟨#[]⟩,.bool false,.slice none 0 0,.bool true,.int .i64 2,.int .i64 n,.string ⟨#[]⟩,.bool false,.slice none 0 0] 287))
 have H1:=hid (h.below hB.out)
 clear h
 go_enter func156,ntmps156
 go_wp2_with fail
 refine (ccmp_a b0 m A v4 v3 n4 n3 xs4 xs3 R i n h4 h3 _ H1.out).mono ?_;rintro e w1 ⟨rfl,g4,c4,g3,c3,hM,hb1,hf⟩
 have HM:=hid hM
 have s0:=hB.out.size
 go_wp2_with fail
 exact bodyPost_end (v:=.tuple #[]) (by simp [results,results156,go_sem]) rfl ⟨rfl,g4,c4,g3,c3,HM.out,(hB.out.mono hbw).trans hb1,fun k hk hm h1 h2=>(hf k oM hm h1 h2).trans (hB.out.block k hk)⟩
theorem cexpr_b(b0 m:Nat)(A:Array Value)(v4 v3:Value)(n4 n3:Nat)(xs4 xs3:List Value)(R:List Row)(i:Nat)(hi:i<6)(n:Int)(h4:n4<900)(h3:n3<900)(w:World)(h:MK b0 m 178 A (⟨4,118,2,v4,n4,xs4⟩ ::⟨3,290,7,v3,n3,xs3⟩ ::R) w): Calls prog 156 #[.pointer (some ⟨m,0,none⟩),.agg #[.int .i64 4,.slice none 0 0,.bool false,.slice none 0 0,.int .i64 (i:Nat),.bool true,.int .i64 2,.int .i64 n,.string ⟨#[]⟩,.bool false,.slice none 0 0,.bool false,.int .i64 0,.int .i64 0,.string ⟨#[]⟩,.bool false,.slice none 0 0]] w fun e w'=>CmpP b0 m A v4 v3 n4 n3 xs4 xs3 R (trn i:Nat) 2 n w e w':=by
 have hb:=h.b
 have hl:=h.lt
 have hbw:b0≤w.heap.size:=oM
 have hB:=hid ((Below.refl w.heap.size w).alloc qL (.cells #[.int .i64 4,.slice none 0 0,.bool false,.slice none 0 0,.int .i64 (i:Nat),.bool true,.int .i64 2,.int .i64 n,.string ⟨#[]⟩,.bool false,.slice none 0 0,.bool false,.int .i64 0,.int .i64 0,.string ⟨#[]⟩,.bool false,.slice none 0 0] 287))
 have H1:=hid (h.below hB.out)
 clear h
 go_enter func156,ntmps156
 go_wp2_with fail
 refine (ccmp_b b0 m A v4 v3 n4 n3 xs4 xs3 R i hi n h4 h3 _ H1.out).mono ?_;rintro e w1 ⟨rfl,g4,c4,g3,c3,hM,hb1,hf⟩
 have HM:=hid hM
 have s0:=hB.out.size
 go_wp2_with fail
 exact bodyPost_end (v:=.tuple #[]) (by simp [results,results156,go_sem]) rfl ⟨rfl,g4,c4,g3,c3,HM.out,(hB.out.mono hbw).trans hb1,fun k hk hm h1 h2=>(hf k oM hm h1 h2).trans (hB.out.block k hk)⟩
theorem exprQ_a(i n:Int): ExprQ i false 0 0 true 2 n i n:=fun b0 m A v4 v3 n4 n3 xs4 xs3 R h4 h3 W h=>cexpr_a b0 m A v4 v3 n4 n3 xs4 xs3 R i n h4 h3 W h
theorem exprQ_b(i:Nat)(hi:i<6)(n:Int): ExprQ (i:Nat) true 2 n false 0 0 (trn i:Nat) n:=fun b0 m A v4 v3 n4 n3 xs4 xs3 R h4 h3 W h=>cexpr_b b0 m A v4 v3 n4 n3 xs4 xs3 R i hi n h4 h3 W h
theorem ops_lt{i:Nat}{op:ByteArray}(h:opsL[i]?=some op): i<6:=(List.getElem?_eq_some_iff.1 h).1
theorem query_A(q:ByteArray)(hs:q.size≤4096)(i:Nat)(op:ByteArray)(hop:opsL[i]?=some op)(n:Int)(hn:n.natAbs≤9007199254740991)(hq:q.data.toList=36::91::63::64::(op.data.toList++(Lib.itoa n++[93])))(w:World): Calls prog 26 #[.string q] w fun e w'=>QueryF (i:Nat) n w e w':=
 cquery_f q (i:Nat) false 0 0 true 2 n (i:Nat) n (exprQ_a _ _) (fun W=>parse_A q hs i op hop n hn hq W) w
theorem query_B(q:ByteArray)(hs:q.size≤4096)(i:Nat)(op:ByteArray)(hop:opsL[i]?=some op)(n:Int)(hn:n.natAbs≤9007199254740991)(hq:q.data.toList=36::91::63::(Lib.itoa n++(op.data.toList++[64,93])))(w:World): Calls prog 26 #[.string q] w fun e w'=>QueryF (trn i:Nat) n w e w':=
 cquery_f q (i:Nat) true 2 n false 0 0 (trn i:Nat) n (exprQ_b i (ops_lt hop) n) (fun W=>parse_B q hs i op hop n hn hq W) w
end Nn
end Go.Proofs.YtjcioljdlfdnbaaGreatDoor
