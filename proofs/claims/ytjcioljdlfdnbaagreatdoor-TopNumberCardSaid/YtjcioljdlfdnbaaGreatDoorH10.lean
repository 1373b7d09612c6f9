/- Part 10: lemmas for TopNumber; no conditions. -/
import Derived.Test.YtjcioljdlfdnbaaGreatDoorH08
import Derived.Test.YtjcioljdlfdnbaaGreatDoorH09
set_option linter.unusedVariables false
set_option linter.unusedSimpArgs false
set_option maxRecDepth 100000
set_option maxHeartbeats 2000000
open Go.Proofs.Tryz
namespace Go.Proofs.YtjcioljdlfdnbaaGreatDoor
section
open Go.RowKit
theorem over_e(r g:Nat)(w:World)(h:Rd4 w r g): Calls prog 83 #[.pointer (some ⟨r,0,none⟩)] w fun e w'=>e=.returned (.bool true)∧w=w':=by
 obtain ⟨lt,⟨o,c,c0⟩,c1,c2,c3,c4⟩ :=id h
 go_enter func83,ntmps83
 go_wp2_with fail
 go_ret
 exact ⟨rfl,rfl⟩
theorem kind_e(r g:Nat)(w:World)(h:Rd4 w r g): Calls prog 150 #[.pointer (some ⟨r,0,none⟩)] w fun e w'=>e=.returned (.int .i64 0)∧w=w':=by
 obtain ⟨lt,⟨o,c,c0⟩,c1,c2,c3,c4⟩ :=id h
 go_enter func150,ntmps150
 go_wp2_with (first|(go_at_call 83;refine (over_e r g _ h).mono ?_;rintro e w9 ⟨rfl,rfl⟩))
 go_wp2_with fail
 go_ret
 exact ⟨rfl,rfl⟩
theorem is_e(r g:Nat)(s:ByteArray)(w:World)(h:Rd4 w r g): Calls prog 80 #[.pointer (some ⟨r,0,none⟩),.string s] w fun e w'=>e=.returned (.bool false)∧w=w':=by
 obtain ⟨lt,⟨o,c,c0⟩,c1,c2,c3,c4⟩ :=id h
 go_enter func80,ntmps80
 go_wp2_with (first|(go_at_call 150;refine (kind_e r g _ h).mono ?_;rintro e w9 ⟨rfl,rfl⟩))
 go_wp2_with fail
 go_ret
 exact ⟨rfl,rfl⟩
theorem info264: (prog.info? 269).map (fun i=>(i.zero,i.size,i.bytes))=some (some (.agg #[.bool false,.slice none 0 0]),2,32):=by kernel_rfl
structure Pa (w:World) (q s:Nat):Prop where
 lt:q<w.heap.size
 c0:w.cell? ⟨q,0,none⟩=some (.bool false)
 c1:w.cell? ⟨q,1,none⟩=some (.slice (some ⟨s,0,none⟩) 1 1)
 sl:Sl w s
theorem Pa.below{w w':World}{q s:Nat}(h:Pa w q s)(hb:Below w.heap.size w w'): Pa w' q s:=⟨Nat.lt_of_lt_of_le h.lt hb.size,(hb.cell (p:=⟨q,0,none⟩) h.lt).trans h.c0,(hb.cell (p:=⟨q,1,none⟩) h.lt).trans h.c1,h.sl.below hb⟩
theorem Pa.set{w:World}{q s:Nat}(h:Pa w q s){a:Addr}(h1:a.block≠q)(h2:a.block≠s)(v:Value): Pa (w.setCell a v) q s:=⟨by simpa [World.setCell] using h.lt,(qO (by intro e;exact h1 (by rw [e]))).trans h.c0,(qO (by intro e;exact h1 (by rw [e]))).trans h.c1,h.sl.set h2 v⟩
theorem path_0(r g cap:Nat)(w:World)(h:Rd0 w r g cap): Calls prog 82 #[.pointer (some ⟨r,0,none⟩)] w fun e w'=>∃q c s,e=.returned (.agg #[.bool true,.slice (some ⟨q,0,none⟩) 1 c])∧RF r w w'∧Rd4 w' r g∧w.heap.size≤q∧w.heap.size≤s∧Pa w' q s:=by
 have lt:=h.1.lt
 have glt:=h.1.glt
 obtain ⟨i0,hi0,hz0,hs0,hb0⟩ :=info_parts info264
 go_enter func82,ntmps82
 go_wp2_with (first|(go_at_call 80;refine (is_s r g _ _ _ _ _ _ _ true (by simp only [ByteArray.toList_eq];decide) _ (Rq.below h.1 tq6)).mono ?_;rintro e w9 ⟨rfl,rfl⟩))
 refine (next_0 r g cap _ ⟨(by repeat' (first|refine Rq.setO ?_ tq5 tq5 _|refine Rq.below ?_ (qR.alloc qL _)|exact h.1)),(by repeat' (first|refine Tk.set ?_ _ _ tq5|refine Tk.below ?_ (qR.alloc qL _)|exact h.2))⟩).mono ?_;rintro e w1 ⟨rfl,hf,hn⟩
 have s1:=hf.gr.size;try simp at s1
 try (have:w.heap.size<w1.heap.size:=oM)
 try (have:w.heap.size<w1.heap.size+1:=oM)
 try (have:w.heap.size<w1.heap.size+1+1:=oM)
 try (have lr1:r<w1.heap.size:=oM)
 try (have e1_0:=hf.far (b:=w.heap.size) (c:=0) tq5 oM;simp [go_sem] at e1_0)
 try (have f1_0:=hf.farz (b:=w.heap.size) (c:=0) tq5 oM;simp [go_sem] at f1_0)
 try (have e1_1:=hf.far (b:=w.heap.size) (c:=1) tq5 oM;simp [go_sem] at e1_1)
 try (have f1_1:=hf.farz (b:=w.heap.size) (c:=1) tq5 oM;simp [go_sem] at f1_1)
 have s2:=hf.gr.size;try simp at s2
 try (have:w.heap.size+1<w1.heap.size:=oM)
 try (have:w.heap.size+1<w1.heap.size+1:=oM)
 try (have:w.heap.size+1<w1.heap.size+1+1:=oM)
 try (have:r<w1.heap.size:=oM)
 try (have e2_0:=hf.far (b:=w.heap.size+1) (c:=0) tq5 oM;simp [go_sem] at e2_0)
 try (have f2_0:=hf.farz (b:=w.heap.size+1) (c:=0) tq5 oM;simp [go_sem] at f2_0)
 try (have e2_1:=hf.far (b:=w.heap.size+1) (c:=1) tq5 oM;simp [go_sem] at e2_1)
 try (have f2_1:=hf.farz (b:=w.heap.size+1) (c:=1) tq5 oM;simp [go_sem] at f2_1)
 have F1:=rf_step (r:=r) (w:=w) (by (repeat' (first|refine RF.new ?_ lt tq5 _|(refine RF.alloc ?_ lt _)|(refine RF.drew ?_ lt)|refine RF.set ?_ _|exact Hid.out aM|exact RF.refl _ _))) hf
 clear hf
 go_wp2_with (first|(refine wp_loop_unr 3 ?_;refine Unr.step ?_;intro U hU)|(refine Unr.step ?_;intro U hU)|(go_at_call 80;refine (is_s r g _ _ _ _ _ _ _ true (by simp only [ByteArray.toList_eq];decide) _ (Rq.below hn.1 tq6)).mono ?_;rintro e w9 ⟨rfl,rfl⟩))
 have hsg:∀(W:World) (hW:Below w1.heap.size w1 W),Calls prog 154 #[.pointer (some ⟨r,0,none⟩)] W fun e w'=>∃s,e=.returned (.agg #[.bool false,.slice (some ⟨s,0,none⟩) 1 1])∧Hid (RF r w w')∧Hid (Sl w' s)∧Hid (Rd4 w' r g)∧Hid (w1.heap.size≤s)∧w1.heap.size≤w'.heap.size∧w.heap.size<w'.heap.size∧w.heap.size+1<w'.heap.size∧w'.cell? ⟨w.heap.size+1,0,none⟩=some (.bool true)∧w'.frozen? ⟨w.heap.size+1,0,none⟩=false∧w'.cell? ⟨w.heap.size+1,1,none⟩=some (.slice none 0 0)∧w'.frozen? ⟨w.heap.size+1,1,none⟩=false∧w'.cell? ⟨w.heap.size,0,none⟩=some (.bool false)∧w'.frozen? ⟨w.heap.size,0,none⟩=false∧w'.cell? ⟨w.heap.size,1,none⟩=some (.slice none 0 0)∧w'.frozen? ⟨w.heap.size,1,none⟩=false:=fun W hW=>(seg_1 r g (cap-1) W ⟨Rq.below hn.1 hW,Tk.below hn.2 hW⟩).mono fun e w' ⟨s,h1,h2,h3,h4,h5⟩ =>⟨s,h1,rf_step (w:=w) ((F1.out.trans (RF.below lr1 hW))) h2,hid h4,hid h5,hid (Nat.le_trans hW.size h3),Nat.le_trans hW.size h2.gr.size,by have:=h2.gr.size;have:=hW.size;omega,by have:=h2.gr.size;have:=hW.size;omega,(h2.far (b:=w.heap.size+1) (c:=0) (by have:=hW.size;omega) oM).trans ((hW.cell (p:=⟨w.heap.size+1,0,none⟩) (by simp;omega)).trans e2_0),(h2.farz (b:=w.heap.size+1) (c:=0) (by have:=hW.size;omega) oM).trans ((hW.frozen (p:=⟨w.heap.size+1,0,none⟩) (by simp;omega)).trans f2_0),(h2.far (b:=w.heap.size+1) (c:=1) (by have:=hW.size;omega) oM).trans ((hW.cell (p:=⟨w.heap.size+1,1,none⟩) (by simp;omega)).trans e2_1),(h2.farz (b:=w.heap.size+1) (c:=1) (by have:=hW.size;omega) oM).trans ((hW.frozen (p:=⟨w.heap.size+1,1,none⟩) (by simp;omega)).trans f2_1),(h2.far (b:=w.heap.size) (c:=0) (by have:=hW.size;omega) oM).trans ((hW.cell (p:=⟨w.heap.size,0,none⟩) (by simp;omega)).trans e1_0),(h2.farz (b:=w.heap.size) (c:=0) (by have:=hW.size;omega) oM).trans ((hW.frozen (p:=⟨w.heap.size,0,none⟩) (by simp;omega)).trans f1_0),(h2.far (b:=w.heap.size) (c:=1) (by have:=hW.size;omega) oM).trans ((hW.cell (p:=⟨w.heap.size,1,none⟩) (by simp;omega)).trans e1_1),(h2.farz (b:=w.heap.size) (c:=1) (by have:=hW.size;omega) oM).trans ((hW.frozen (p:=⟨w.heap.size,1,none⟩) (by simp;omega)).trans f1_1)⟩
 go_region_law ((first|(go_simp;go_at_call 154;refine (hsg _ tq6).mono ?_;rintro e w2 ⟨s,rfl,G1,G2,G3,G4,z1,z2,z3,a0,b0,a1,b1,a2,b2,a3,b3⟩)|(refine step_push rfl _ _ 116 rfl 269 i0 _ 2 32 underlying116 hi0 hz0 hs0 hb0 rfl oM (Acc.nil qR 269 2) rfl rfl rfl rfl rfl oM oM ?_;intro gb cp w3 hA;have xa0:=(hA.bel.cell (p:=⟨w.heap.size+1,0,none⟩) z3).trans a0;have xb0:=(hA.bel.frozen (p:=⟨w.heap.size+1,0,none⟩) z3).trans b0;have xa1:=(hA.bel.cell (p:=⟨w.heap.size+1,1,none⟩) z3).trans a1;have xb1:=(hA.bel.frozen (p:=⟨w.heap.size+1,1,none⟩) z3).trans b1;have xa2:=(hA.bel.cell (p:=⟨w.heap.size,0,none⟩) z2).trans a2;have xb2:=(hA.bel.frozen (p:=⟨w.heap.size,0,none⟩) z2).trans b2;have xa3:=(hA.bel.cell (p:=⟨w.heap.size,1,none⟩) z2).trans a3;have xb3:=(hA.bel.frozen (p:=⟨w.heap.size,1,none⟩) z2).trans b3;have HA:=hid hA;clear hA)))
 all_goals
  have hr:=HA.out.row
  have lq:=G3.out.lt
  have hg4:=G4.out
  have hr1:=hr.1
  have HR:Hid (Rd4 (w3.setCell (⟨w.heap.size+1,1,none⟩:Addr) (Value.slice (some ⟨gb,0,none⟩) 1 cp)) r g):=hid ((Rd4.below G3.out HA.out.bel).setO (by simp;omega) _)
  have:Hid (Pa (w3.setCell (⟨w.heap.size+1,1,none⟩:Addr) (Value.slice (some ⟨gb,0,none⟩) 1 cp)) gb s):=hid (Pa.set (Pa.mk hr.2.1 (hr.2.2 0 _ rfl) (hr.2.2 1 _ rfl) (G2.out.below HA.out.bel)) (by simp;omega) (by simp;omega) _)
  have:Hid (RF r w (w3.setCell (⟨w.heap.size+1,1,none⟩:Addr) (Value.slice (some ⟨gb,0,none⟩) 1 cp))):=hid (RF.new (G1.out.trans (RF.below lq HA.out.bel)) lt sM _)
  have:Hid (RF r w w3):=hid (G1.out.trans (RF.below lq HA.out.bel))
  have HR3:=Rd4.below G3.out HA.out.bel
  have HP3:Pa w3 gb s:=Pa.mk hr.2.1 (hr.2.2 0 _ rfl) (hr.2.2 1 _ rfl) (G2.out.below HA.out.bel)
  clear hr
  go_wp2_with (first|(go_at_call 80;refine (is_e r g _ _ HR.out).mono ?_;rintro e w9 ⟨rfl,rfl⟩)|(refine wp_loop_unr 3 ?_;refine Unr.step ?_;intro U hU)|(refine Unr.step ?_;intro U hU))
  try simp only [Exit.inBlock,Exit.then]
  refine bodyPost_ret (v:=.agg #[.bool true,.slice (some ⟨gb,0,none⟩) 1 cp]) (by simp [results,results82,go_sem,xa0,xa1,xa2,xa3,xb0,xb1,xb2,xb3]) rfl ⟨gb,cp,s,by simp,by (repeat' (first|refine RF.new ?_ lt tq5 _|(refine RF.alloc ?_ lt _)|(refine RF.drew ?_ lt)|refine RF.set ?_ _|exact Hid.out aM|exact RF.refl _ _)),(by repeat' (first|refine Rd4.setO ?_ tq5 _|refine Rd4.below ?_ (qR.alloc qL _)|exact HR3)),by omega,by omega,by repeat' (first|refine Pa.set ?_ tq5 tq5 _|exact HP3)⟩
theorem RF.bel{r B:Nat}{w w':World}(h:RF r w w')(hr:B≤r)(hB:B≤w.heap.size): Below B w w':=
 ⟨h.gr.os,h.gr.tape,h.gr.output,Nat.le_trans hB h.gr.size |> fun _=>by have:=h.gr.size;omega,fun i hi=>h.gr.block i oM (by simp;omega)⟩
def ParseP (w:World) (e:Ending) (w':World):Prop:=∃q c s,e=.returned (.tuple #[.agg #[.bool true,.slice (some ⟨q,0,none⟩) 1 c],.agg #[.int .i64 0,.int .i64 0]])∧w.heap.size≤q∧w.heap.size≤s∧Pa w' q s∧Below w.heap.size w w'
theorem parse_any(w:World): Calls prog 44 #[.string ⟨#[36,91,48,93]⟩] w fun e w'=>ParseP w e w':=by
 go_enter func44,ntmps44
 go_wp2_with fail
 refine (lex_any _).mono ?_;rintro e w1 ⟨g,cap,rfl,hcap,hg,hk,hb1⟩
 have s1:=hb1.size;try simp at s1
 try (have:w.heap.size<w1.heap.size:=oM)
 try (have:w.heap.size<w1.heap.size+1:=oM)
 try (have:w.heap.size<w1.heap.size+1+1:=oM)
 try (have:w.heap.size+1<w1.heap.size:=oM)
 try (have:w.heap.size+1<w1.heap.size+1:=oM)
 try (have:w.heap.size+1<w1.heap.size+1+1:=oM)
 try (have e1_0_0_0:=hb1.cell (p:=⟨w.heap.size,0,none⟩) tq5;simp [go_sem, *] at e1_0_0_0)
 try (have f1_0_0_0:=hb1.frozen (p:=⟨w.heap.size,0,none⟩) tq5;simp [go_sem, *] at f1_0_0_0)
 try (have e1_0_0_1:=hb1.cell (p:=⟨w.heap.size,1,none⟩) tq5;simp [go_sem, *] at e1_0_0_1)
 try (have f1_0_0_1:=hb1.frozen (p:=⟨w.heap.size,1,none⟩) tq5;simp [go_sem, *] at f1_0_0_1)
 try (have e1_0_1_0:=hb1.cell (p:=⟨w.heap.size+1,0,none⟩) tq5;simp [go_sem, *] at e1_0_1_0)
 try (have f1_0_1_0:=hb1.frozen (p:=⟨w.heap.size+1,0,none⟩) tq5;simp [go_sem, *] at f1_0_1_0)
 try (have e1_0_1_1:=hb1.cell (p:=⟨w.heap.size+1,1,none⟩) tq5;simp [go_sem, *] at e1_0_1_1)
 try (have f1_0_1_1:=hb1.frozen (p:=⟨w.heap.size+1,1,none⟩) tq5;simp [go_sem, *] at f1_0_1_1)
 have HB1:=bel_step (w:=w) tq6 hb1
 clear hb1
 have hlt:=hk.lt
 have hR0:∀o,Rd0 ((w1.alloc o).alloc (Obj.cells #[.slice (some ⟨g,0,none⟩) 4 cap,.int .i64 4,.int .i64 0,.int .i64 0,.int .i64 0] 173)) (w1.heap.size+1) g cap:=fun o=>⟨⟨by simp,by simp;omega,by omega,hcap,by simp [go_sem],by simp [go_sem],by simp [go_sem],by simp [go_sem],by simp [go_sem],by simp [go_sem],(Tk.below hk (((qR.alloc qL _).alloc sM _))).c0,(Tk.below hk (((qR.alloc qL _).alloc sM _))).c1,(Tk.below hk (((qR.alloc qL _).alloc sM _))).c2,(Tk.below hk (((qR.alloc qL _).alloc sM _))).c3,(Tk.below hk (((qR.alloc qL _).alloc sM _))).c4⟩,(Tk.below hk (((qR.alloc qL _).alloc sM _)))⟩
 go_wp2_with (first|(go_at_call 80;refine (is_s (w1.heap.size+1) g _ _ _ _ _ _ _ true (by simp only [ByteArray.toList_eq];decide) _ (hR0 _).1).mono ?_;rintro e w9 ⟨rfl,rfl⟩))
 refine (path_0 (w1.heap.size+1) g cap _ (hR0 _)).mono ?_;rintro e w2 ⟨q,c,s,rfl,hf,hn,hq,hs,hP⟩
 have s2:=hf.gr.size;try simp at s2
 try (have:w.heap.size<w2.heap.size:=oM)
 try (have:w.heap.size<w2.heap.size+1:=oM)
 try (have:w.heap.size<w2.heap.size+1+1:=oM)
 try (have lr2:r<w2.heap.size:=oM)
 try (have e2_0:=hf.far (b:=w.heap.size) (c:=0) tq5 oM;simp [go_sem, *] at e2_0)
 try (have f2_0:=hf.farz (b:=w.heap.size) (c:=0) tq5 oM;simp [go_sem, *] at f2_0)
 try (have e2_1:=hf.far (b:=w.heap.size) (c:=1) tq5 oM;simp [go_sem, *] at e2_1)
 try (have f2_1:=hf.farz (b:=w.heap.size) (c:=1) tq5 oM;simp [go_sem, *] at f2_1)
 have s3:=hf.gr.size;try simp at s3
 try (have:w.heap.size+1<w2.heap.size:=oM)
 try (have:w.heap.size+1<w2.heap.size+1:=oM)
 try (have:w.heap.size+1<w2.heap.size+1+1:=oM)
 try (have lr3:r<w2.heap.size:=oM)
 try (have e3_0:=hf.far (b:=w.heap.size+1) (c:=0) tq5 oM;simp [go_sem, *] at e3_0)
 try (have f3_0:=hf.farz (b:=w.heap.size+1) (c:=0) tq5 oM;simp [go_sem, *] at f3_0)
 try (have e3_1:=hf.far (b:=w.heap.size+1) (c:=1) tq5 oM;simp [go_sem, *] at e3_1)
 try (have f3_1:=hf.farz (b:=w.heap.size+1) (c:=1) tq5 oM;simp [go_sem, *] at f3_1)
 have:Hid (Below w.heap.size w w2):=hid (Below.trans tq6 (RF.bel hf oM (by simp;omega)))
 clear hf
 have hn0:=hn.c2
 have lr2:=hn.lt
 have lr3:w1.heap.size+1<w2.heap.size+1:=oM
 go_wp2_with (first|(go_at_call 83;refine (over_e (w1.heap.size+1) g _ (hn.below (qR.alloc qL _))).mono ?_;rintro e w9 ⟨rfl,rfl⟩))
 try simp only [Exit.inBlock,Exit.then]
 refine bodyPost_ret (v:=.tuple #[.agg #[.bool true,.slice (some ⟨q,0,none⟩) 1 c],.agg #[.int .i64 0,.int .i64 0]]) (by simp [results,results44,go_sem, *]) rfl ⟨q,c,s,by simp,by simp at hq;omega,by simp at hs;omega,?_,tq6⟩
 simp at hq hs
 repeat' (first|refine Pa.set ?_ tq5 tq5 _|refine Pa.below ?_ (qR.alloc qL _)|exact hP)
structure Wr (b:Nat) (l:List UInt8) (w:World):Prop where
 sb:Tw.SB b b l w
 lt:b<w.heap.size
def Kp (b:Nat) (w w':World):Prop:=Tw.Keeps b b w w'
theorem Wr.drew{b:Nat}{l:List UInt8}{w:World}(h:Wr b l w): Wr b l w.drew:=⟨h.sb,h.lt⟩
theorem Wr.put{b:Nat}{l:List UInt8}{w w':World}{B:Nat}(h:Tw.SB b b l w')(hk:Tw.Keeps b b w w')(hl:b<w.heap.size)(hs:w.heap.size≤w'.heap.size): Wr b l w':=⟨h,Nat.lt_of_lt_of_le hl hs⟩
theorem Kp.drew{b:Nat}{w w':World}(h:Tw.Keeps b b w.drew w'): Tw.Keeps b b w w':=⟨⟨h.1.os,h.1.tape,h.1.output,h.1.size,h.1.block⟩,h.2⟩
theorem Kp.alloc{b:Nat}{w w':World}{o:Obj}(h:Tw.Keeps b b (w.alloc o) w')(hb:b≤w.heap.size): Tw.Keeps b b w w':=
 ⟨((Below.refl _ w).alloc hb _).trans h.1,(Lib.OthersKept.alloc (Lib.OthersKept.refl _ _ _) o).trans h.2⟩
theorem csel_0(w:World): Calls prog 155 #[.agg #[.int .i64 2,.string ⟨#[]⟩,.int .i64 0,.int .i64 0,.int .i64 0,.int .i64 0,.bool false,.bool false,.pointer none]] w fun e w'=>e=.returned (.agg #[.int .i64 2,.string ⟨#[]⟩,.int .i64 0,.int .i64 0,.int .i64 0,.bool false,.bool false,.int .i64 0])∧Below w.heap.size w w':=by
 go_enter func155,ntmps155
 go_wp2_with fail
 try simp only [Exit.inBlock,Exit.then]
 refine bodyPost_ret (v:=.agg #[.int .i64 2,.string ⟨#[]⟩,.int .i64 0,.int .i64 0,.int .i64 0,.bool false,.bool false,.int .i64 0]) (by simp [results,results155,go_sem]) rfl ⟨rfl,tq6⟩
theorem info317: (prog.info? 280).map (fun i=>(i.zero,i.size,i.bytes))=some (some (.agg #[.int .i64 0,.string ⟨#[]⟩,.int .i64 0,.int .i64 0,.int .i64 0,.bool false,.bool false,.int .i64 0]),8,64):=by kernel_rfl
theorem info314: (prog.info? 275).map (fun i=>(i.zero,i.size,i.bytes))=some (some (.agg #[.bool false,.int .i64 0,.int .i64 0]),3,24):=by kernel_rfl
theorem info311: (prog.info? 272).map (fun i=>(i.zero,i.size,i.bytes))=some (some (.agg #[.bool false,.int .i64 0,.int .i64 0]),3,24):=by kernel_rfl
theorem info265: (prog.info? 276).map (fun i=>(i.zero,i.size,i.bytes))=some (some (.pointer none),1,8):=by kernel_rfl
structure CP (w:World) (m wa:Nat) (v0 v1 v2:Value) (gt xt:Int) (W:World):Prop where
 gr:w.grownBy W (some m)
 ml:m<w.heap.size
 wl:w.heap.size+5≤W.heap.size
 m0:W.cell? ⟨m,0,none⟩=some v0
 m1:W.cell? ⟨m,1,none⟩=some v1
 m2:W.cell? ⟨m,2,none⟩=some v2
 m3:W.cell? ⟨m,3,none⟩=some (.slice none 0 0)
 m4:W.cell? ⟨m,4,none⟩=some (.slice (some ⟨wa,0,none⟩) 1 1)
 n0:W.frozen? ⟨m,0,none⟩=false
 n1:W.frozen? ⟨m,1,none⟩=false
 n2:W.frozen? ⟨m,2,none⟩=false
 x0:W.cell? ⟨w.heap.size+1,0,none⟩=some (.bool true)
 x1:W.cell? ⟨w.heap.size+1,1,none⟩=some (.int .i64 0)
 x2:W.cell? ⟨w.heap.size+1,2,none⟩=some (.int .i64 xt)
 xf:W.frozen? ⟨w.heap.size+1,2,none⟩=false
 g0:W.cell? ⟨w.heap.size+3,0,none⟩=some (.bool false)
 g1:W.cell? ⟨w.heap.size+3,1,none⟩=some (.int .i64 0)
 g2:W.cell? ⟨w.heap.size+3,2,none⟩=some (.int .i64 gt)
 gf:W.frozen? ⟨w.heap.size+3,2,none⟩=false
 y0:W.cell? ⟨w.heap.size+4,0,none⟩=some (.int .i64 2)
 y1:W.cell? ⟨w.heap.size+4,1,none⟩=some (.string ⟨#[]⟩)
 y2:W.cell? ⟨w.heap.size+4,2,none⟩=some (.int .i64 0)
 y3:W.cell? ⟨w.heap.size+4,3,none⟩=some (.int .i64 0)
 y4:W.cell? ⟨w.heap.size+4,4,none⟩=some (.int .i64 0)
 y5:W.cell? ⟨w.heap.size+4,5,none⟩=some (.int .i64 0)
 y6:W.cell? ⟨w.heap.size+4,6,none⟩=some (.bool false)
 y7:W.cell? ⟨w.heap.size+4,7,none⟩=some (.bool false)
 y8:W.cell? ⟨w.heap.size+4,8,none⟩=some (.pointer none)
theorem CP.below{W':World}{w W:World}{m wa:Nat}{v0 v1 v2:Value}{gt xt:Int}(h:CP w m wa v0 v1 v2 gt xt W)(hb:Below W.heap.size W W'): CP w m wa v0 v1 v2 gt xt W':=by
 have a:=h.ml;have b:=h.wl
 exact ⟨⟨hb.os.trans h.gr.os,hb.tape.trans h.gr.tape,hb.output.trans h.gr.output,Nat.le_trans h.gr.size hb.size,fun k hk hn=>(hb.block k (Nat.lt_of_lt_of_le hk h.gr.size)).trans (h.gr.block k hk hn)⟩,h.ml,Nat.le_trans h.wl hb.size,(hb.cell (p:=⟨m,0,none⟩) (by show m<_;omega)).trans h.m0,(hb.cell (p:=⟨m,1,none⟩) (by show m<_;omega)).trans h.m1,(hb.cell (p:=⟨m,2,none⟩) (by show m<_;omega)).trans h.m2,(hb.cell (p:=⟨m,3,none⟩) (by show m<_;omega)).trans h.m3,(hb.cell (p:=⟨m,4,none⟩) (by show m<_;omega)).trans h.m4,(hb.frozen (p:=⟨m,0,none⟩) (by show m<_;omega)).trans h.n0,(hb.frozen (p:=⟨m,1,none⟩) (by show m<_;omega)).trans h.n1,(hb.frozen (p:=⟨m,2,none⟩) (by show m<_;omega)).trans h.n2,(hb.cell (p:=⟨w.heap.size+1,0,none⟩) (by show w.heap.size+1<_;omega)).trans h.x0,(hb.cell (p:=⟨w.heap.size+1,1,none⟩) (by show w.heap.size+1<_;omega)).trans h.x1,(hb.cell (p:=⟨w.heap.size+1,2,none⟩) (by show w.heap.size+1<_;omega)).trans h.x2,(hb.frozen (p:=⟨w.heap.size+1,2,none⟩) (by show w.heap.size+1<_;omega)).trans h.xf,(hb.cell (p:=⟨w.heap.size+3,0,none⟩) (by show w.heap.size+3<_;omega)).trans h.g0,(hb.cell (p:=⟨w.heap.size+3,1,none⟩) (by show w.heap.size+3<_;omega)).trans h.g1,(hb.cell (p:=⟨w.heap.size+3,2,none⟩) (by show w.heap.size+3<_;omega)).trans h.g2,(hb.frozen (p:=⟨w.heap.size+3,2,none⟩) (by show w.heap.size+3<_;omega)).trans h.gf,(hb.cell (p:=⟨w.heap.size+4,0,none⟩) (by show w.heap.size+4<_;omega)).trans h.y0,(hb.cell (p:=⟨w.heap.size+4,1,none⟩) (by show w.heap.size+4<_;omega)).trans h.y1,(hb.cell (p:=⟨w.heap.size+4,2,none⟩) (by show w.heap.size+4<_;omega)).trans h.y2,(hb.cell (p:=⟨w.heap.size+4,3,none⟩) (by show w.heap.size+4<_;omega)).trans h.y3,(hb.cell (p:=⟨w.heap.size+4,4,none⟩) (by show w.heap.size+4<_;omega)).trans h.y4,(hb.cell (p:=⟨w.heap.size+4,5,none⟩) (by show w.heap.size+4<_;omega)).trans h.y5,(hb.cell (p:=⟨w.heap.size+4,6,none⟩) (by show w.heap.size+4<_;omega)).trans h.y6,(hb.cell (p:=⟨w.heap.size+4,7,none⟩) (by show w.heap.size+4<_;omega)).trans h.y7,(hb.cell (p:=⟨w.heap.size+4,8,none⟩) (by show w.heap.size+4<_;omega)).trans h.y8⟩
theorem CP.setM2{w W:World}{m wa:Nat}{v0 v1 v2:Value}{gt xt:Int}(h:CP w m wa v0 v1 v2 gt xt W)(v:Value): CP w m wa v0 v1 v gt xt (W.setCell ⟨m,2,none⟩ v):=by
 have a:=h.ml;have b:=h.wl
 exact ⟨⟨h.gr.os,h.gr.tape,h.gr.output,by simpa [World.setCell] using h.gr.size,fun k hk hn=>(Below.heap_setCell _ _ _ _ (by show k≠m;exact fun e=>hn (by rw [e]))).trans (h.gr.block k hk hn)⟩,h.ml,by simpa [World.setCell] using h.wl,(qO tq7).trans h.m0,(qO tq7).trans h.m1,World.cell?_setCell_same' _ _ _ (by rw [h.m2];rfl),(qO tq7).trans h.m3,(qO tq7).trans h.m4,qF.trans h.n0,qF.trans h.n1,qF.trans h.n2,(qO tq7).trans h.x0,(qO tq7).trans h.x1,(qO tq7).trans h.x2,qF.trans h.xf,(qO tq7).trans h.g0,(qO tq7).trans h.g1,(qO tq7).trans h.g2,qF.trans h.gf,(qO tq7).trans h.y0,(qO tq7).trans h.y1,(qO tq7).trans h.y2,(qO tq7).trans h.y3,(qO tq7).trans h.y4,(qO tq7).trans h.y5,(qO tq7).trans h.y6,(qO tq7).trans h.y7,(qO tq7).trans h.y8⟩
theorem CP.setM1{w W:World}{m wa:Nat}{v0 v1 v2:Value}{gt xt:Int}(h:CP w m wa v0 v1 v2 gt xt W)(v:Value): CP w m wa v0 v v2 gt xt (W.setCell ⟨m,1,none⟩ v):=by
 have a:=h.ml;have b:=h.wl
 exact ⟨⟨h.gr.os,h.gr.tape,h.gr.output,by simpa [World.setCell] using h.gr.size,fun k hk hn=>(Below.heap_setCell _ _ _ _ (by show k≠m;exact fun e=>hn (by rw [e]))).trans (h.gr.block k hk hn)⟩,h.ml,by simpa [World.setCell] using h.wl,(qO tq7).trans h.m0,World.cell?_setCell_same' _ _ _ (by rw [h.m1];rfl),(qO tq7).trans h.m2,(qO tq7).trans h.m3,(qO tq7).trans h.m4,qF.trans h.n0,qF.trans h.n1,qF.trans h.n2,(qO tq7).trans h.x0,(qO tq7).trans h.x1,(qO tq7).trans h.x2,qF.trans h.xf,(qO tq7).trans h.g0,(qO tq7).trans h.g1,(qO tq7).trans h.g2,qF.trans h.gf,(qO tq7).trans h.y0,(qO tq7).trans h.y1,(qO tq7).trans h.y2,(qO tq7).trans h.y3,(qO tq7).trans h.y4,(qO tq7).trans h.y5,(qO tq7).trans h.y6,(qO tq7).trans h.y7,(qO tq7).trans h.y8⟩
theorem CP.setM0{w W:World}{m wa:Nat}{v0 v1 v2:Value}{gt xt:Int}(h:CP w m wa v0 v1 v2 gt xt W)(v:Value): CP w m wa v v1 v2 gt xt (W.setCell ⟨m,0,none⟩ v):=by
 have a:=h.ml;have b:=h.wl
 exact ⟨⟨h.gr.os,h.gr.tape,h.gr.output,by simpa [World.setCell] using h.gr.size,fun k hk hn=>(Below.heap_setCell _ _ _ _ (by show k≠m;exact fun e=>hn (by rw [e]))).trans (h.gr.block k hk hn)⟩,h.ml,by simpa [World.setCell] using h.wl,World.cell?_setCell_same' _ _ _ (by rw [h.m0];rfl),(qO tq7).trans h.m1,(qO tq7).trans h.m2,(qO tq7).trans h.m3,(qO tq7).trans h.m4,qF.trans h.n0,qF.trans h.n1,qF.trans h.n2,(qO tq7).trans h.x0,(qO tq7).trans h.x1,(qO tq7).trans h.x2,qF.trans h.xf,(qO tq7).trans h.g0,(qO tq7).trans h.g1,(qO tq7).trans h.g2,qF.trans h.gf,(qO tq7).trans h.y0,(qO tq7).trans h.y1,(qO tq7).trans h.y2,(qO tq7).trans h.y3,(qO tq7).trans h.y4,(qO tq7).trans h.y5,(qO tq7).trans h.y6,(qO tq7).trans h.y7,(qO tq7).trans h.y8⟩
theorem CP.setG{w W:World}{m wa:Nat}{v0 v1 v2:Value}{gt xt:Int}(h:CP w m wa v0 v1 v2 gt xt W)(v:Int): CP w m wa v0 v1 v2 v xt (W.setCell ⟨w.heap.size+3,2,none⟩ (.int .i64 v)):=by
 have a:=h.ml;have b:=h.wl
 exact ⟨⟨h.gr.os,h.gr.tape,h.gr.output,by simpa [World.setCell] using h.gr.size,fun k hk hn=>(Below.heap_setCell _ _ _ _ (by show k≠w.heap.size+3;omega)).trans (h.gr.block k hk hn)⟩,h.ml,by simpa [World.setCell] using h.wl,(qO tq7).trans h.m0,(qO tq7).trans h.m1,(qO tq7).trans h.m2,(qO tq7).trans h.m3,(qO tq7).trans h.m4,qF.trans h.n0,qF.trans h.n1,qF.trans h.n2,(qO tq7).trans h.x0,(qO tq7).trans h.x1,(qO tq7).trans h.x2,qF.trans h.xf,(qO tq7).trans h.g0,(qO tq7).trans h.g1,World.cell?_setCell_same' _ _ _ (by rw [h.g2];rfl),qF.trans h.gf,(qO tq7).trans h.y0,(qO tq7).trans h.y1,(qO tq7).trans h.y2,(qO tq7).trans h.y3,(qO tq7).trans h.y4,(qO tq7).trans h.y5,(qO tq7).trans h.y6,(qO tq7).trans h.y7,(qO tq7).trans h.y8⟩
theorem CP.setX{w W:World}{m wa:Nat}{v0 v1 v2:Value}{gt xt:Int}(h:CP w m wa v0 v1 v2 gt xt W)(v:Int): CP w m wa v0 v1 v2 gt v (W.setCell ⟨w.heap.size+1,2,none⟩ (.int .i64 v)):=by
 have a:=h.ml;have b:=h.wl
 exact ⟨⟨h.gr.os,h.gr.tape,h.gr.output,by simpa [World.setCell] using h.gr.size,fun k hk hn=>(Below.heap_setCell _ _ _ _ (by show k≠w.heap.size+1;omega)).trans (h.gr.block k hk hn)⟩,h.ml,by simpa [World.setCell] using h.wl,(qO tq7).trans h.m0,(qO tq7).trans h.m1,(qO tq7).trans h.m2,(qO tq7).trans h.m3,(qO tq7).trans h.m4,qF.trans h.n0,qF.trans h.n1,qF.trans h.n2,(qO tq7).trans h.x0,(qO tq7).trans h.x1,World.cell?_setCell_same' _ _ _ (by rw [h.x2];rfl),qF.trans h.xf,(qO tq7).trans h.g0,(qO tq7).trans h.g1,(qO tq7).trans h.g2,qF.trans h.gf,(qO tq7).trans h.y0,(qO tq7).trans h.y1,(qO tq7).trans h.y2,(qO tq7).trans h.y3,(qO tq7).trans h.y4,(qO tq7).trans h.y5,(qO tq7).trans h.y6,(qO tq7).trans h.y7,(qO tq7).trans h.y8⟩
end
namespace Nn
open Go.RowKit
structure Qr (w:World) (r g j m cap:Nat) (K:Int) (S:ByteArray) (N A en dp:Int):Prop where
 lt:r<w.heap.size
 glt:g<w.heap.size
 ne:r≠g
 hcap:m+1≤cap
 c0:w.cell? ⟨r,0,none⟩=some (.slice (some ⟨g,j,none⟩) (m+1) cap)
 c1:w.cell? ⟨r,1,none⟩=some (.int .i64 en)
 c2:w.cell? ⟨r,2,none⟩=some (.int .i64 0)
 c3:w.cell? ⟨r,3,none⟩=some (.int .i64 0)
 c4:w.cell? ⟨r,4,none⟩=some (.int .i64 dp)
 f0:w.frozen? ⟨r,0,none⟩=false
 f4:w.frozen? ⟨r,4,none⟩=false
 h0:w.cell? ⟨g,j,none⟩=some (.int .i64 K)
 h1:w.cell? ⟨g,j+1,none⟩=some (.string S)
 h2:w.cell? ⟨g,j+2,none⟩=some (.int .i64 N)
 h3:w.cell? ⟨g,j+3,none⟩=some (.int .i64 A)
 h4:w.cell? ⟨g,j+4,none⟩=some (.bool false)
theorem Qr.below{w w':World}{r g j m cap:Nat}{K:Int}{S:ByteArray}{N A en dp:Int}(h:Qr w r g j m cap K S N A en dp)(hb:Below w.heap.size w w'): Qr w' r g j m cap K S N A en dp:=
 ⟨Nat.lt_of_lt_of_le h.lt hb.size,Nat.lt_of_lt_of_le h.glt hb.size,h.ne,h.hcap,(hb.cell (p:=⟨r,0,none⟩) h.lt).trans h.c0,(hb.cell (p:=⟨r,1,none⟩) h.lt).trans h.c1,(hb.cell (p:=⟨r,2,none⟩) h.lt).trans h.c2,(hb.cell (p:=⟨r,3,none⟩) h.lt).trans h.c3,(hb.cell (p:=⟨r,4,none⟩) h.lt).trans h.c4,(hb.frozen (p:=⟨r,0,none⟩) h.lt).trans h.f0,(hb.frozen (p:=⟨r,4,none⟩) h.lt).trans h.f4,(hb.cell (p:=⟨g,j,none⟩) h.glt).trans h.h0,(hb.cell (p:=⟨g,j+1,none⟩) h.glt).trans h.h1,(hb.cell (p:=⟨g,j+2,none⟩) h.glt).trans h.h2,(hb.cell (p:=⟨g,j+3,none⟩) h.glt).trans h.h3,(hb.cell (p:=⟨g,j+4,none⟩) h.glt).trans h.h4⟩
structure QF (r:Nat) (w w':World):Prop where
 gr:w.grownBy w' (some r)
theorem QF.refl(r:Nat)(w:World): QF r w w:=⟨⟨rfl,rfl,rfl,qL,fun _ _ _=>rfl⟩⟩
theorem QF.trans{r:Nat}{w w' w'':World}(h:QF r w w')(k:QF r w' w''): QF r w w'':=
 ⟨⟨k.gr.os.trans h.gr.os,k.gr.tape.trans h.gr.tape,k.gr.output.trans h.gr.output,Nat.le_trans h.gr.size k.gr.size,fun i hi hne=>(k.gr.block i (Nat.lt_of_lt_of_le hi h.gr.size) hne).trans (h.gr.block i hi hne)⟩⟩
theorem QF.below{r:Nat}{w w':World}(h:Below w.heap.size w w'): QF r w w':=
 ⟨⟨h.os,h.tape,h.output,h.size,fun i hi _=>h.block i hi⟩⟩
theorem QF.alloc{r:Nat}{w w':World}(h:QF r w w')(hr:r<w.heap.size)(o:Obj): QF r w (w'.alloc o):=
 h.trans (QF.below (qR.alloc qL _))
theorem QF.drew{r:Nat}{w w':World}(h:QF r w w')(hr:r<w.heap.size): QF r w w'.drew:=h.trans (QF.below (qR.drew))
theorem QF.drewN{r:Nat}{w w':World}(h:QF r w w')(hr:r<w.heap.size)(m:Nat): QF r w (w'.drewN m):=h.trans (QF.below (below_drewN' qR m))
theorem QF.set{r:Nat}{w w':World}(h:QF r w w'){a:Addr}(ha:a.block=r)(v:Value): QF r w (w'.setCell a v):=
 h.trans ⟨⟨rfl,rfl,rfl,by simp [World.setCell],fun i hi hne=>Below.heap_setCell _ _ _ _ (by rw [ha];exact fun e=>hne (by rw [e]))⟩⟩
theorem QF.new{r:Nat}{w w':World}(h:QF r w w')(hr:r<w.heap.size){a:Addr}(ha:w.heap.size≤a.block)(v:Value): QF r w (w'.setCell a v):=
 ⟨⟨h.gr.os,h.gr.tape,h.gr.output,by simpa [World.setCell] using h.gr.size,fun i hi hne=>(Below.heap_setCell _ _ _ _ oM).trans (h.gr.block i hi hne)⟩⟩
theorem QF.far{r:Nat}{w w':World}(h:QF r w w'){b c:Nat}(hb:b<w.heap.size)(hne:r≠b): w'.cell? ⟨b,c,none⟩=w.cell? ⟨b,c,none⟩ :=World.cell?_of_block (h.gr.block b hb (by simpa using fun e=>hne e.symm))
theorem QF.farz{r:Nat}{w w':World}(h:QF r w w'){b c:Nat}(hb:b<w.heap.size)(hne:r≠b): w'.frozen? ⟨b,c,none⟩=w.frozen? ⟨b,c,none⟩ :=World.frozen?_of_block (h.gr.block b hb (by simpa using fun e=>hne e.symm))
theorem over_q2(r g j m cap:Nat)(K:Int)(S:ByteArray)(N A en dp:Int)(w:World)(h:Qr w r g j m cap K S N A en dp): Calls prog 83 #[.pointer (some ⟨r,0,none⟩)] w fun e w'=>e=.returned (.bool false)∧w=w':=by
 obtain ⟨lt,glt,ne,hcap,c0,c1,c2,c3,c4,f0,f4,h0,h1,h2,h3,h4⟩ :=id h
 have:¬((m:Int)+1=0):=oM
 have:(0:Int)<(m:Int)+1:=oM
 have:(0:Int)≤(m:Int)+1:=oM
 go_enter func83,ntmps83
 go_wp2_with fail
 go_ret
 exact ⟨rfl,rfl⟩
theorem kind_q2(r g j m cap:Nat)(K:Int)(S:ByteArray)(N A en dp:Int)(w:World)(h:Qr w r g j m cap K S N A en dp): Calls prog 150 #[.pointer (some ⟨r,0,none⟩)] w fun e w'=>e=.returned (.int .i64 K)∧w=w':=by
 obtain ⟨lt,glt,ne,hcap,c0,c1,c2,c3,c4,f0,f4,h0,h1,h2,h3,h4⟩ :=id h
 have:¬((m:Int)+1=0):=oM
 have:(0:Int)<(m:Int)+1:=oM
 have:(0:Int)≤(m:Int)+1:=oM
 go_enter func150,ntmps150
 go_wp2_with (first|(go_at_call 83;refine (over_q2 r g j m cap K S N A en dp _ h).mono ?_;rintro e w9 ⟨rfl,rfl⟩))
 go_wp2_with fail
 go_ret
 exact ⟨rfl,rfl⟩
theorem is_no2(r g j m cap:Nat)(K:Int)(S:ByteArray)(N A en dp:Int)(s:ByteArray)(hK:¬K=1)(w:World)(h:Qr w r g j m cap K S N A en dp): Calls prog 80 #[.pointer (some ⟨r,0,none⟩),.string s] w fun e w'=>e=.returned (.bool false)∧w=w':=by
 obtain ⟨lt,glt,ne,hcap,c0,c1,c2,c3,c4,f0,f4,h0,h1,h2,h3,h4⟩ :=id h
 have:¬((m:Int)+1=0):=oM
 have:(0:Int)<(m:Int)+1:=oM
 have:(0:Int)≤(m:Int)+1:=oM
 have:(K==1)=false:=by rw [beq_eq_false_iff_ne];exact hK
 have:decide (K=1)=false:=by rw [decide_eq_false_iff_not];exact hK
 go_enter func80,ntmps80
 go_wp2_with (first|(go_at_call 150;refine (kind_q2 r g j m cap K S N A en dp _ h).mono ?_;rintro e w9 ⟨rfl,rfl⟩))
 go_wp2_with fail
 go_ret
 exact ⟨rfl,rfl⟩
theorem is_s2(r g j m cap:Nat)(S:ByteArray)(N A en dp:Int)(s:ByteArray)(b:Bool)(hb:(S.toList==s.toList)=b)(w:World)(h:Qr w r g j m cap 1 S N A en dp): Calls prog 80 #[.pointer (some ⟨r,0,none⟩),.string s] w fun e w'=>e=.returned (.bool b)∧w=w':=by
 obtain ⟨lt,glt,ne,hcap,c0,c1,c2,c3,c4,f0,f4,h0,h1,h2,h3,h4⟩ :=id h
 have:¬((m:Int)+1=0):=oM
 have:(0:Int)<(m:Int)+1:=oM
 have:(0:Int)≤(m:Int)+1:=oM
 go_enter func80,ntmps80
 go_wp2_with (first|(go_at_call 150;refine (kind_q2 r g j m cap 1 S N A en dp _ h).mono ?_;rintro e w9 ⟨rfl,rfl⟩))
 go_wp2_with fail
 go_ret
 exact ⟨by simp [hb],rfl⟩
theorem next_c2(r g j m c:Nat)(K:Int)(S:ByteArray)(N A en dp:Int)(w:World)(h:Qr w r g j m (c+2) K S N A en dp): Calls prog 153 #[.pointer (some ⟨r,0,none⟩)] w fun e w'=>NextP w r g j m (c+2) K S N A e w':=by
 obtain ⟨lt,glt,ne,hcap,c0,c1,c2,c3,c4,f0,f4,h0,h1,h2,h3,h4⟩ :=id h
 have:¬((m:Int)+1=0):=oM
 have:(0:Int)<(m:Int)+1:=oM
 have:(0:Int)≤(m:Int)+1:=oM
 have rlt:=lt
 have:¬g=r:=fun e=>ne e.symm
 have:¬r=g:=ne
 have:g<w.heap.size+1:=oM
 have:g<w.heap.size+1+1:=oM
 have:g<w.heap.size+1+1+1:=oM
 have:g<w.heap.size+1+1+1+1:=oM
 have:r<w.heap.size+1:=oM
 have:r<w.heap.size+1+1:=oM
 have:r<w.heap.size+1+1+1:=oM
 have:r<w.heap.size+1+1+1+1:=oM
 go_enter func153,ntmps153
 go_wp2_with (first|(go_at_call 83;refine (over_q2 r g j m (c+2) K S N A en dp _ (h.below tq4)).mono ?_;rintro e w9 ⟨rfl,rfl⟩))
 try simp only [Exit.inBlock,Exit.then]
 refine bodyPost_ret (v:=.agg #[.int .i64 K,.string S,.int .i64 N,.int .i64 A,.bool false]) (by simp [results,results153,go_sem, *]) rfl ⟨rfl,(by (repeat' (first|refine RF.new ?_ lt tq5 _|(refine RF.alloc ?_ lt _)|(refine RF.drew ?_ lt)|refine RF.set ?_ _|exact Hid.out aM|exact RF.refl _ _))),fun _=>by simp [go_sem, *],fun e=>by subst e;exact ⟨j+5,c+1,by simp [go_sem, *]⟩⟩
theorem next_12(r g j:Nat)(K:Int)(S:ByteArray)(N A en dp:Int)(w:World)(h:Qr w r g j 0 1 K S N A en dp): Calls prog 153 #[.pointer (some ⟨r,0,none⟩)] w fun e w'=>NextP w r g j 0 1 K S N A e w':=by
 obtain ⟨lt,glt,ne,hcap,c0,c1,c2,c3,c4,f0,f4,h0,h1,h2,h3,h4⟩ :=id h
 have rlt:=lt
 have:¬g=r:=fun e=>ne e.symm
 have:¬r=g:=ne
 have:g<w.heap.size+1:=oM
 have:g<w.heap.size+1+1:=oM
 have:g<w.heap.size+1+1+1:=oM
 have:g<w.heap.size+1+1+1+1:=oM
 have:r<w.heap.size+1:=oM
 have:r<w.heap.size+1+1:=oM
 have:r<w.heap.size+1+1+1:=oM
 have:r<w.heap.size+1+1+1+1:=oM
 go_enter func153,ntmps153
 go_wp2_with (first|(go_at_call 83;refine (over_q2 r g j 0 1 K S N A en dp _ (h.below tq4)).mono ?_;rintro e w9 ⟨rfl,rfl⟩))
 try simp only [Exit.inBlock,Exit.then]
 refine bodyPost_ret (v:=.agg #[.int .i64 K,.string S,.int .i64 N,.int .i64 A,.bool false]) (by simp [results,results153,go_sem, *]) rfl ⟨rfl,(by (repeat' (first|refine RF.new ?_ lt tq5 _|(refine RF.alloc ?_ lt _)|(refine RF.drew ?_ lt)|refine RF.set ?_ _|exact Hid.out aM|exact RF.refl _ _))),fun e=>absurd e oM,fun _=>⟨j,0,by simp [go_sem, *]⟩⟩
theorem next_q2(r g j m cap:Nat)(K:Int)(S:ByteArray)(N A en dp:Int)(w:World)(h:Qr w r g j m cap K S N A en dp): Calls prog 153 #[.pointer (some ⟨r,0,none⟩)] w fun e w'=>NextP w r g j m cap K S N A e w':=by
 have hc:=h.hcap
 obtain ⟨c,rfl⟩|rfl:(∃c,cap=c+2)∨cap=1:=by
  by_cases h1:cap=1
  ·exact .inr h1
  ·exact .inl ⟨cap-2,by omega⟩
 ·exact next_c2 r g j m c K S N A en dp w h
 ·obtain rfl:m=0:=oM
  exact next_12 r g j K S N A en dp w h
structure Tok where
 K:Int
 S:ByteArray
 N:Int
 A:Int
def TL (W:World) (g:Nat):Nat→List Tok→Prop
 | _,[]=>True
 | j,t::ts=>W.cell? ⟨g,j,none⟩=some (.int .i64 t.K)∧W.cell? ⟨g,j+1,none⟩=some (.string t.S)∧W.cell? ⟨g,j+2,none⟩=some (.int .i64 t.N)∧W.cell? ⟨g,j+3,none⟩=some (.int .i64 t.A)∧W.cell? ⟨g,j+4,none⟩=some (.bool false)∧TL W g (j+5) ts
theorem TL.of{W W':World}{g:Nat}(hc:∀c,W'.cell? ⟨g,c,none⟩=W.cell? ⟨g,c,none⟩): ∀{j:Nat} {ts:List Tok},TL W g j ts→TL W' g j ts
 | _,[],_=>trivial
 | _,_::_,⟨h0,h1,h2,h3,h4,h⟩ =>⟨(hc _).trans h0,(hc _).trans h1,(hc _).trans h2,(hc _).trans h3,(hc _).trans h4,TL.of hc h⟩
structure Rt (W:World) (r g:Nat) (ts:List Tok) (en dp:Int):Prop where
 lt:r<W.heap.size
 glt:g<W.heap.size
 ne:r≠g
 c0:∃j c,W.cell? ⟨r,0,none⟩=some (.slice (some ⟨g,j,none⟩) ts.length c)∧ts.length≤c∧TL W g j ts
 c1:W.cell? ⟨r,1,none⟩=some (.int .i64 en)
 c2:W.cell? ⟨r,2,none⟩=some (.int .i64 0)
 c3:W.cell? ⟨r,3,none⟩=some (.int .i64 0)
 c4:W.cell? ⟨r,4,none⟩=some (.int .i64 dp)
 f0:W.frozen? ⟨r,0,none⟩=false
 f4:W.frozen? ⟨r,4,none⟩=false
theorem Rt.of{W W':World}{r g:Nat}{ts:List Tok}{en dp:Int}(h:Rt W r g ts en dp)(hs:W.heap.size≤W'.heap.size)(hr:∀c,W'.cell? ⟨r,c,none⟩=W.cell? ⟨r,c,none⟩)(hf:∀c,W'.frozen? ⟨r,c,none⟩=W.frozen? ⟨r,c,none⟩)(hg:∀c,W'.cell? ⟨g,c,none⟩=W.cell? ⟨g,c,none⟩): Rt W' r g ts en dp:=by
 obtain ⟨j,c,h0,h1,h2⟩ :=h.c0
 exact ⟨Nat.lt_of_lt_of_le h.lt hs,Nat.lt_of_lt_of_le h.glt hs,h.ne,⟨j,c,(hr 0).trans h0,h1,h2.of hg⟩,(hr 1).trans h.c1,(hr 2).trans h.c2,(hr 3).trans h.c3,(hr 4).trans h.c4,(hf 0).trans h.f0,(hf 4).trans h.f4⟩
theorem Rt.below{W W':World}{r g:Nat}{ts:List Tok}{en dp:Int}(h:Rt W r g ts en dp)(hb:Below W.heap.size W W'): Rt W' r g ts en dp:=
 h.of hb.size (fun c=>hb.cell (p:=⟨r,c,none⟩) h.lt) (fun c=>hb.frozen (p:=⟨r,c,none⟩) h.lt) (fun c=>hb.cell (p:=⟨g,c,none⟩) h.glt)
theorem Rt.setO{W:World}{r g:Nat}{ts:List Tok}{en dp:Int}(h:Rt W r g ts en dp){a:Addr}(h1:a.block≠r)(h2:a.block≠g)(v:Value): Rt (W.setCell a v) r g ts en dp:=
 h.of (by simp [World.setCell]) (fun c=>qO (by intro e;exact h1 (by rw [e]))) (fun c=>qF) (fun c=>qO (by intro e;exact h2 (by rw [e])))
theorem Rt.qr{W:World}{r g:Nat}{t:Tok}{ts:List Tok}{en dp:Int}(h:Rt W r g (t::ts) en dp): ∃j c,Qr W r g j ts.length c t.K t.S t.N t.A en dp∧TL W g (j+5) ts:=by
 obtain ⟨j,c,h0,h1,k0,k1,k2,k3,k4,k5⟩ :=h.c0
 exact ⟨j,c,⟨h.lt,h.glt,h.ne,h1,h0,h.c1,h.c2,h.c3,h.c4,h.f0,h.f4,k0,k1,k2,k3,k4⟩,k5⟩
theorem Rt.step{W W':World}{r g:Nat}{t:Tok}{ts:List Tok}{en dp:Int}(h:Rt W r g (t::ts) en dp)(hf:RF r W W')(hn:∃j c,W'.cell? ⟨r,0,none⟩=some (.slice (some ⟨g,j,none⟩) ts.length c)∧ts.length≤c∧TL W g j ts): Rt W' r g ts en dp:=by
 obtain ⟨j,c,h0,h1,h2⟩ :=hn
 exact ⟨Nat.lt_of_lt_of_le h.lt hf.gr.size,Nat.lt_of_lt_of_le h.glt hf.gr.size,h.ne,⟨j,c,h0,h1,h2.of fun c=>hf.far h.glt h.ne⟩,(hf.cl 1 oM).trans h.c1,(hf.cl 2 oM).trans h.c2,(hf.cl 3 oM).trans h.c3,(hf.cl 4 oM).trans h.c4,(hf.fz 0).trans h.f0,(hf.fz 4).trans h.f4⟩
theorem Rt.setD{W:World}{r g:Nat}{ts:List Tok}{en dp:Int}(h:Rt W r g ts en dp)(d:Int): Rt (W.setCell ⟨r,4,none⟩ (.int .i64 d)) r g ts en d:=by
 obtain ⟨j,c,h0,h1,h2⟩ :=h.c0
 have o:∀c,c≠4→(W.setCell ⟨r,4,none⟩ (.int .i64 d)).cell? ⟨r,c,none⟩=W.cell? ⟨r,c,none⟩ :=fun c hc=>qO (by intro e;injection e with _ e;omega)
 exact ⟨by simpa [World.setCell] using h.lt,by simpa [World.setCell] using h.glt,h.ne,⟨j,c,(o 0 oM).trans h0,h1,h2.of fun c=>qO (by intro e;injection e with e _;exact h.ne e)⟩,(o 1 oM).trans h.c1,(o 2 oM).trans h.c2,(o 3 oM).trans h.c3,by have:=h.c4;simp [go_sem, *],qF.trans h.f0,qF.trans h.f4⟩
theorem kind_t{r g:Nat}{t:Tok}{ts:List Tok}{en dp:Int}(w:World)(h:Rt w r g (t::ts) en dp): Calls prog 150 #[.pointer (some ⟨r,0,none⟩)] w fun e w'=>e=.returned (.int .i64 t.K)∧w=w':=by
 obtain ⟨j,c,hq,-⟩ :=h.qr
 exact kind_q2 _ _ _ _ _ _ _ _ _ _ _ w hq
def Is (t:Tok) (s:ByteArray) (b:Bool):Prop:=(decide (t.K=1) && (t.S.toList==s.toList))=b
theorem is_t{r g:Nat}{t:Tok}{ts:List Tok}{en dp:Int}(s:ByteArray)(b:Bool)(hb:Is t s b)(w:World)(h:Rt w r g (t::ts) en dp): Calls prog 80 #[.pointer (some ⟨r,0,none⟩),.string s] w fun e w'=>e=.returned (.bool b)∧w=w':=by
 obtain ⟨j,c,hq,-⟩ :=h.qr
 obtain ⟨K,S,N,A⟩ :=t
 by_cases hK:K=1
 ·subst hK
  exact is_s2 _ _ _ _ _ _ _ _ _ _ s b (by simpa [Is] using hb) w hq
 ·obtain rfl:b=false:=by rw [←hb];simp [hK]
  exact is_no2 _ _ _ _ _ _ _ _ _ _ _ s hK w hq
abbrev Tok.v (t:Tok):Value:=.agg #[.int .i64 t.K,.string t.S,.int .i64 t.N,.int .i64 t.A,.bool false]
theorem next_t{r g:Nat}{t:Tok}{ts:List Tok}{en dp:Int}(w:World)(h:Rt w r g (t::ts) en dp): Calls prog 153 #[.pointer (some ⟨r,0,none⟩)] w fun e w'=>e=.returned t.v∧QF r w w'∧Rt w' r g ts en dp:=by
 obtain ⟨j,c,hq,hl⟩ :=h.qr
 refine (next_q2 _ _ _ _ _ _ _ _ _ _ _ w hq).mono ?_
 rintro e w' ⟨h1,h2,h3,h4⟩
 refine ⟨h1,⟨h2.gr⟩,h.step h2 ?_⟩
 cases ts with
 | nil=>obtain ⟨o,c,h5⟩ :=h4 rfl;exact ⟨o,c,h5,Nat.zero_le _,trivial⟩
 | cons t' ts=>exact ⟨j+5,c-1,h3 sM,by have:=hq.hcap;simp at this ⊢;omega,hl⟩
theorem take_t{r g:Nat}{t:Tok}{ts:List Tok}{en dp:Int}(s:ByteArray)(hb:Is t s true)(w:World)(h:Rt w r g (t::ts) en dp): Calls prog 217 #[.pointer (some ⟨r,0,none⟩),.string s] w fun e w'=>e=.returned (.bool true)∧QF r w w'∧Rt w' r g ts en dp:=by
 go_enter func217,ntmps217
 go_wp2_with fail
 refine (is_t s true hb _ h).mono ?_;rintro e w9 ⟨rfl,rfl⟩
 go_wp2_with fail
 refine (next_t _ h).mono ?_;rintro e w1 ⟨rfl,hf,hn⟩
 go_wp2_with fail
 go_ret
 exact ⟨rfl,hf,hn⟩
theorem take_n{r g:Nat}{t:Tok}{ts:List Tok}{en dp:Int}(s:ByteArray)(hb:Is t s false)(w:World)(h:Rt w r g (t::ts) en dp): Calls prog 217 #[.pointer (some ⟨r,0,none⟩),.string s] w fun e w'=>e=.returned (.bool false)∧w=w':=by
 go_enter func217,ntmps217
 go_wp2_with fail
 refine (is_t s false hb _ h).mono ?_;rintro e w9 ⟨rfl,rfl⟩
 go_wp2_with fail
 go_ret
 exact ⟨rfl,rfl⟩
theorem must_t{r g:Nat}{t:Tok}{ts:List Tok}{en dp:Int}(s:ByteArray)(hb:Is t s true)(w:World)(h:Rt w r g (t::ts) en dp): Calls prog 279 #[.pointer (some ⟨r,0,none⟩),.string s] w fun e w'=>e=.returned (.tuple #[])∧QF r w w'∧Rt w' r g ts en dp:=by
 go_enter func279,ntmps279
 go_wp2_with fail
 refine (take_t s hb _ h).mono ?_;rintro e w1 ⟨rfl,hf,hn⟩
 go_wp2_with fail
 refine bodyPost_end (v:=.tuple #[]) (by simp [results,results279,go_sem]) rfl ⟨rfl,hf,hn⟩
theorem over_n{r g:Nat}{en dp:Int}(w:World)(h:Rt w r g [] en dp): Calls prog 83 #[.pointer (some ⟨r,0,none⟩)] w fun e w'=>e=.returned (.bool true)∧w=w':=by
 obtain ⟨lt,glt,ne,⟨j,c,c0,-,-⟩,c1,c2,c3,c4,f0,f4⟩ :=id h
 go_enter func83,ntmps83
 go_wp2_with fail
 go_ret
 exact ⟨rfl,rfl⟩
theorem kind_n{r g:Nat}{en dp:Int}(w:World)(h:Rt w r g [] en dp): Calls prog 150 #[.pointer (some ⟨r,0,none⟩)] w fun e w'=>e=.returned (.int .i64 0)∧w=w':=by
 go_enter func150,ntmps150
 go_wp2_with (first|(go_at_call 83;refine (over_n _ h).mono ?_;rintro e w9 ⟨rfl,rfl⟩))
 go_wp2_with fail
 go_ret
 exact ⟨rfl,rfl⟩
theorem is_n{r g:Nat}{en dp:Int}(s:ByteArray)(w:World)(h:Rt w r g [] en dp): Calls prog 80 #[.pointer (some ⟨r,0,none⟩),.string s] w fun e w'=>e=.returned (.bool false)∧w=w':=by
 go_enter func80,ntmps80
 go_wp2_with (first|(go_at_call 150;refine (kind_n _ h).mono ?_;rintro e w9 ⟨rfl,rfl⟩))
 go_wp2_with fail
 go_ret
 exact ⟨rfl,rfl⟩
theorem at_t{r g:Nat}{t:Tok}{ts:List Tok}{en dp:Int}(w:World)(h:Rt w r g (t::ts) en dp): Calls prog 152 #[.pointer (some ⟨r,0,none⟩)] w fun e w'=>e=.returned (.int .i64 t.A)∧w=w':=by
 obtain ⟨j,c,hq,-⟩ :=h.qr
 obtain ⟨K,S,N,A⟩ :=t
 simp only at hq
 obtain ⟨lt,glt,ne,hcap,c0,c1,c2,c3,c4,f0,f4,h0,h1,h2,h3,h4⟩ :=id hq
 clear hq h
 generalize ts.length=m at c0 hcap
 have:¬((m:Int)+1=0):=oM
 have:(0:Int)<(m:Int)+1:=oM
 have:(0:Int)≤(m:Int)+1:=oM
 go_enter func152,ntmps152
 go_wp2_with fail
 go_ret
 exact ⟨rfl,rfl⟩
theorem open_t{r g:Nat}{en dp:Int}{t:Tok}{ts:List Tok}(hd:0≤dp∧dp<32)(w:World)(h:Rt w r g (t::ts) en dp): Calls prog 321 #[.pointer (some ⟨r,0,none⟩)] w fun e w'=>e=.returned (.tuple #[])∧QF r w w'∧Rt w' r g (ts) en (dp+1):=by
 have lt:=h.lt
 have c4:=h.c4
 have f4:=h.f4
 have:IntKind.i64.wrap (dp+1)=dp+1:=IntWalk.i64_in _ oM
 have:decide (32<dp+1)=false:=by rw [decide_eq_false_iff_not];omega
 have hN:=next_t _ (h.setD (dp+1))
 have hq:QF r w (w.setCell ⟨r,4,none⟩ (.int .i64 (dp+1))):=(QF.refl r w).set rfl _
 clear h
 go_enter func321,ntmps321
 go_wp2_with fail
 refine hN.mono ?_;rintro e w1 ⟨rfl,hf,hn⟩
 go_wp2_with fail
 refine bodyPost_end (v:=.tuple #[]) (by simp [results,results321,go_sem]) rfl ⟨rfl,hq.trans hf,hn⟩
def Nos (u:Tok):Prop:=Is u ⟨#[91]⟩ false∧Is u ⟨#[46]⟩ false∧Is u ⟨#[46,46]⟩ false
theorem qf_step{r:Nat}{w W w':World}(a:QF r w W)(hf:QF r W w'): Hid (QF r w w'):=hid (a.trans hf)
theorem path_t{r g:Nat}{en dp:Int}{t u:Tok}{ts:List Tok}(ht:Is t ⟨#[36]⟩ false)(hu:Nos u)(w:World)(h:Rt w r g (t::u::ts) en dp): Calls prog 82 #[.pointer (some ⟨r,0,none⟩)] w fun e w'=>e=.returned (.agg #[.bool false,.slice none 0 0])∧QF r w w'∧Rt w' r g (u::ts) en (dp):=by
 have lt:=h.lt
 have glt:=h.glt
 have H:=hid h
 clear h
 go_enter func82,ntmps82
 go_wp2_with (first|(go_at_call 80;refine (is_t (r:=r) (g:=g) (t:=t) (ts:=u::ts) (en:=en) (dp:=dp) _ false ht _ (by repeat' (first|assumption|exact Hid.out aM|refine Rt.setO ?_ tq5 tq5 _|refine Rt.below ?_ (qR.alloc qL _)|refine Rt.below ?_ (below_drewN' qR _)|refine Rt.below ?_ (Below.drew qR)))).mono ?_;rintro e w9 ⟨rfl,rfl⟩))
 refine (next_t (r:=r) (g:=g) (t:=t) (ts:=u::ts) (en:=en) (dp:=dp) _ (by repeat' (first|assumption|exact Hid.out aM|refine Rt.setO ?_ tq5 tq5 _|refine Rt.below ?_ (qR.alloc qL _)|refine Rt.below ?_ (below_drewN' qR _)|refine Rt.below ?_ (Below.drew qR)))).mono ?_;rintro e w1 ⟨rfl,hf,hn⟩
 have s1:=hf.gr.size;try simp at s1
 try (have:w.heap.size<w1.heap.size:=oM)
 try (have:w.heap.size+1<w1.heap.size:=oM)
 try (have:r<w1.heap.size:=oM)
 try (have e1_0:=hf.far (b:=w.heap.size) (c:=0) tq5 oM;simp [go_sem] at e1_0)
 try (have f1_0:=hf.farz (b:=w.heap.size) (c:=0) tq5 oM;simp [go_sem] at f1_0)
 try (have e1_1:=hf.far (b:=w.heap.size) (c:=1) tq5 oM;simp [go_sem] at e1_1)
 try (have f1_1:=hf.farz (b:=w.heap.size) (c:=1) tq5 oM;simp [go_sem] at f1_1)
 try (have e1_2:=hf.far (b:=w.heap.size+1) (c:=0) tq5 oM;simp [go_sem] at e1_2)
 try (have f1_2:=hf.farz (b:=w.heap.size+1) (c:=0) tq5 oM;simp [go_sem] at f1_2)
 try (have e1_3:=hf.far (b:=w.heap.size+1) (c:=1) tq5 oM;simp [go_sem] at e1_3)
 try (have f1_3:=hf.farz (b:=w.heap.size+1) (c:=1) tq5 oM;simp [go_sem] at f1_3)
 have F1:=qf_step (r:=r) (w:=w) (by (repeat' (first|assumption|exact Hid.out aM|exact QF.refl _ _|refine QF.new ?_ aM tq5 _|(refine QF.alloc ?_ aM _)|(refine QF.drewN ?_ aM _)|(refine QF.drew ?_ aM)|refine QF.set ?_ (by first|rfl|(simp;done)) _))) hf
 have HN:=hid hn
 clear hf hn H
 go_wp2_with (first|(refine wp_loop_unr 1 ?_;refine Unr.step ?_;intro U hU)|(go_at_call 80;(first|((with_reducible show Calls prog 80 #[_,.string ⟨#[91]⟩] _ _);refine (is_t (r:=r) (g:=g) (t:=u) (ts:=ts) (en:=en) (dp:=dp) _ false hu.1 _ (by repeat' (first|assumption|exact Hid.out aM|refine Rt.setO ?_ tq5 tq5 _|refine Rt.below ?_ (qR.alloc qL _)|refine Rt.below ?_ (below_drewN' qR _)|refine Rt.below ?_ (Below.drew qR)))).mono ?_)|((with_reducible show Calls prog 80 #[_,.string ⟨#[46]⟩] _ _);refine (is_t (r:=r) (g:=g) (t:=u) (ts:=ts) (en:=en) (dp:=dp) _ false hu.2.1 _ (by repeat' (first|assumption|exact Hid.out aM|refine Rt.setO ?_ tq5 tq5 _|refine Rt.below ?_ (qR.alloc qL _)|refine Rt.below ?_ (below_drewN' qR _)|refine Rt.below ?_ (Below.drew qR)))).mono ?_)|((with_reducible show Calls prog 80 #[_,.string ⟨#[46,46]⟩] _ _);refine (is_t (r:=r) (g:=g) (t:=u) (ts:=ts) (en:=en) (dp:=dp) _ false hu.2.2 _ (by repeat' (first|assumption|exact Hid.out aM|refine Rt.setO ?_ tq5 tq5 _|refine Rt.below ?_ (qR.alloc qL _)|refine Rt.below ?_ (below_drewN' qR _)|refine Rt.below ?_ (Below.drew qR)))).mono ?_));rintro e w9 ⟨rfl,rfl⟩))
 try simp only [Exit.inBlock,Exit.then]
 refine bodyPost_ret (v:=.agg #[.bool false,.slice none 0 0]) (by simp [results,results82,go_sem, *]) rfl ⟨rfl,(by (repeat' (first|assumption|exact Hid.out aM|exact QF.refl _ _|refine QF.new ?_ aM tq5 _|(refine QF.alloc ?_ aM _)|(refine QF.drewN ?_ aM _)|(refine QF.drew ?_ aM)|refine QF.set ?_ (by first|rfl|(simp;done)) _))),(by repeat' (first|assumption|exact Hid.out aM|refine Rt.setO ?_ tq5 tq5 _|refine Rt.below ?_ (qR.alloc qL _)|refine Rt.below ?_ (below_drewN' qR _)|refine Rt.below ?_ (Below.drew qR)))⟩
def opsL:List ByteArray:=[⟨#[61,61]⟩,⟨#[33,61]⟩,⟨#[60]⟩,⟨#[60,61]⟩,⟨#[62]⟩,⟨#[62,61]⟩]
structure OpL (g:Nat) (W:World):Prop where
 lt:g<W.heap.size
 c:∀k x,opsL[k]?=some x→W.cell? ⟨g,k,none⟩=some (.string x)
theorem OpL.below{g:Nat}{W W':World}(h:OpL g W)(hb:Below W.heap.size W W'): OpL g W':=⟨Nat.lt_of_lt_of_le h.lt hb.size,fun k x hx=>(hb.cell (p:=⟨g,k,none⟩) h.lt).trans (h.c k x hx)⟩
theorem ops_any(w:World): Calls prog 404 #[] w fun e w'=>∃g,e=.returned (.slice (some ⟨g,0,none⟩) 6 6)∧OpL g w'∧Below w.heap.size w w':=by
 go_enter func404,ntmps404
 go_wp2_with fail
 go_ret
 refine ⟨w.heap.size,rfl,⟨by simp,?_⟩,qR.alloc qL _⟩
 intro k x hx
 have:k<6:=by
  obtain ⟨h,-⟩ :=List.getElem?_eq_some_iff.1 hx
  exact h
 obtain rfl|rfl|rfl|rfl|rfl|rfl:k=0∨k=1∨k=2∨k=3∨k=4∨k=5:=oM
 all_goals (simp [opsL] at hx;subst hx;simp [go_sem])
theorem sidx_any(g:Nat)(v:ByteArray)(i:Nat)(hi:opsL[i]?=some v)(hlt:∀j y,j<i→opsL[j]?=some y→(v.toList==y.toList)=false)(w:World)(hg:OpL g w): Calls prog 403 #[.slice (some ⟨g,0,none⟩) 6 6,.string v] w fun e w'=>e=.returned (.int .i64 (i:Nat))∧w=w':=by
 have:i<6:=by
  obtain ⟨h,-⟩ :=List.getElem?_eq_some_iff.1 hi
  exact h
 have hgl:=hg.lt
 go_enter func403,ntmps403
 go_wp2_with fail
 go_loopg [8] 6 (fun q u wr=>(∃j:Nat,u=.int .i64 (j:Nat)∧j≤i∧q=6-j)∧wr=w)
 case atStart=>exact ⟨⟨0,rfl,by omega,rfl⟩,rfl⟩
 case round=>
  obtain ⟨⟨j,rfl,hj,rfl⟩,rfl⟩ :=hrel
  have:decide ((j:Int)<6)=true:=by rw [decide_eq_true_eq];omega
  by_cases hji:j<i
  ·obtain ⟨y,hy⟩:∃y,opsL[j]?=some y:=⟨_,List.getElem?_eq_getElem (by show j<6;omega)⟩
   have cj:=hg.c j y hy
   have hP:=hlt j y hji hy
   go_wp2_with fail
   go_roundg (6-(j+1))
   case measure=>go_light;omega
   case rel=>go_light;exact ⟨⟨j+1,by go_num,by omega,rfl⟩,rfl⟩
  ·obtain rfl:j=i:=oM
   have cj:=hg.c j v hi
   have hP:(v.toList==v.toList)=true:=by simp
   go_wp2_with fail
   go_ret
   exact ⟨rfl,rfl⟩
theorem ops_no(i:Nat)(v:ByteArray)(hi:opsL[i]?=some v)(j:Nat)(y:ByteArray)(hj:j<i)(hy:opsL[j]?=some y): (v.toList==y.toList)=false:=by
 have:i<6:=by
  obtain ⟨h,-⟩ :=List.getElem?_eq_some_iff.1 hi
  exact h
 obtain ⟨h1,h2⟩:(j=0∨j=1∨j=2∨j=3∨j=4)∧(i=1∨i=2∨i=3∨i=4∨i=5):=oM
 rcases h1 with rfl|rfl|rfl|rfl|rfl <;> rcases h2 with rfl|rfl|rfl|rfl|rfl <;> first|(exfalso;omega)|(simp [opsL] at hi hy;subst hi;subst hy;simp only [ByteArray.toList_eq];decide)
theorem op_held{r g j m c:Nat}{S:ByteArray}{w W:World}(lt:r<w.heap.size)(glt:g<w.heap.size)(c0:w.cell? ⟨r,0,none⟩=some (.slice (some ⟨g,j,none⟩) (m+1) c))(h1:w.cell? ⟨g,j+1,none⟩=some (.string S))(h:Hid (Below w.heap.size w W)): W.cell? ⟨r,0,none⟩=some (.slice (some ⟨g,j,none⟩) (m+1) c)∧W.cell? ⟨g,j+1,none⟩=some (.string S)∧Hid (Below w.heap.size w W):=⟨(h.out.cell (p:=⟨r,0,none⟩) lt).trans c0,(h.out.cell (p:=⟨g,j+1,none⟩) glt).trans h1,h⟩
theorem op_t{r g:Nat}{en dp:Int}{t:Tok}{ts:List Tok}(i:Nat)(hk:t.K=1)(hi:opsL[i]?=some t.S)(w:World)(h:Rt w r g (t::ts) en dp): Calls prog 394 #[.pointer (some ⟨r,0,none⟩)] w fun e w'=>e=.returned (.int .i64 (i:Nat))∧Below w.heap.size w w':=by
 obtain ⟨j,c,hq,-⟩ :=h.qr
 obtain ⟨K,S,N,A⟩ :=t
 simp only at hq hk hi
 subst hk
 have hK:=fun W hW=>kind_q2 _ _ _ _ _ _ _ _ _ _ _ W (hq.below (w':=W) hW)
 obtain ⟨lt,glt,ne,hcap,c0,c1,c2,c3,c4,f0,f4,h0,h1,h2,h3,h4⟩ :=id hq
 clear hq h
 generalize ts.length=m at c0 hcap hK
 have:¬((m:Int)+1=0):=oM
 have:(0:Int)<(m:Int)+1:=oM
 have:(0:Int)≤(m:Int)+1:=oM
 have hS:=fun g W hg=>sidx_any g S i hi (fun j y hj hy=>ops_no i S hi j y hj hy) W hg
 go_enter func394,ntmps394
 go_wp2_with (first|(go_at_call 150;refine (hK _ qR).mono ?_;rintro e w9 ⟨rfl,rfl⟩))
 go_region_held3 (fun w'=>(w').cell? ⟨r,0,none⟩=some (.slice (some ⟨g,j,none⟩) (m+1) c)∧(w').cell? ⟨g,j+1,none⟩=some (.string S)∧Hid (Below w.heap.size w w')) (first|exact op_held lt glt c0 h1 (hid tq4)) (first|(go_at_call 404;refine (ops_any _).mono ?_;rintro e w9 ⟨g9,rfl,hg9,hb⟩;have HB9:=bel_step (w:=w) tq4 hb;clear hb)|(go_at_call 403;refine (hS _ _ (by first|assumption|exact hg9.below qR.drew)).mono ?_;rintro e w8 ⟨rfl,rfl⟩))
 all_goals
  go_wp2_with fail
  go_ret
  exact ⟨rfl,tq4⟩
end Nn
end Go.Proofs.YtjcioljdlfdnbaaGreatDoor
