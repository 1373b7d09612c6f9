/- Part 17: lemmas for TopNumber; no conditions. -/
import Derived.Test.YtjcioljdlfdnbaaGreatDoorH15
set_option linter.unusedVariables false
set_option linter.unusedSimpArgs false
set_option maxRecDepth 100000
set_option maxHeartbeats 2000000
open Go.Proofs.Tryz
namespace Go.Proofs.YtjcioljdlfdnbaaGreatDoor
section
open Go.RowKit
theorem itoa_0(w:World): Calls prog 116 #[.int .i64 0] w fun e w'=>e=.returned (.string ⟨#[48]⟩)∧w=w':=by
 have:=Tryz.strconv_Itoa_small 0 (by decide) w
 rw [show (Lib.decDigits 0).toArray=#[48] by (first|decide +kernel|(simp [Lib.decDigits];done)|(rw [Lib.decDigits];rfl))] at this
 exact this.mono fun e w' ⟨h1,h2⟩ =>⟨h1,h2.symm⟩
theorem step_1(p n L:Nat)(T V:ByteArray)(hD:Doc T V n L)(w:World)(h:Ix w p T n): Calls prog 93 #[.agg #[.pointer (some ⟨p,0,none⟩),.int .i64 1]] w fun e w'=>e=.returned (.string ⟨#[91,48,93]⟩)∧Below w.heap.size w w':=by
 go_enter func93,ntmps93
 go_wp2_with fail
 refine (key_1 p n L T V hD _ (h.below (by (repeat' (first|refine Below.setCell ?_ tq5 _|refine Below.alloc ?_ tq5 _|refine below_drewN' ?_ _|refine Below.drew ?_|exact Hid.out aM|exact qR))))).mono ?_;rintro e w1 ⟨rfl,hb1⟩
 have s1:=hb1.size;try simp at s1
 try (have:w.heap.size<w1.heap.size:=oM)
 try (have:w.heap.size<w1.heap.size+1:=oM)
 try (have:w.heap.size<w1.heap.size+1+1:=oM)
 try (have e1_0_0_0:=hb1.cell (p:=⟨w.heap.size,0,none⟩) tq5;simp [go_sem, *] at e1_0_0_0)
 try (have f1_0_0_0:=hb1.frozen (p:=⟨w.heap.size,0,none⟩) tq5;simp [go_sem, *] at f1_0_0_0)
 try (have e1_0_0_1:=hb1.cell (p:=⟨w.heap.size,1,none⟩) tq5;simp [go_sem, *] at e1_0_0_1)
 try (have f1_0_0_1:=hb1.frozen (p:=⟨w.heap.size,1,none⟩) tq5;simp [go_sem, *] at f1_0_0_1)
 have HB1:=bel_step (w:=w) (by (repeat' (first|refine Below.setCell ?_ tq5 _|refine Below.alloc ?_ tq5 _|refine below_drewN' ?_ _|refine Below.drew ?_|exact Hid.out aM|exact qR))) hb1
 clear hb1
 go_wp2_with fail
 refine (place_1 p n L T V hD _ (h.below (by (repeat' (first|refine Below.setCell ?_ tq5 _|refine Below.alloc ?_ tq5 _|refine below_drewN' ?_ _|refine Below.drew ?_|exact Hid.out aM|exact qR))))).mono ?_;rintro e w2 ⟨rfl,hb2⟩
 have s2:=hb2.size;try simp at s2
 try (have:w.heap.size<w2.heap.size:=oM)
 try (have:w.heap.size<w2.heap.size+1:=oM)
 try (have:w.heap.size<w2.heap.size+1+1:=oM)
 try (have e2_0_0_0:=hb2.cell (p:=⟨w.heap.size,0,none⟩) tq5;simp [go_sem, *] at e2_0_0_0)
 try (have f2_0_0_0:=hb2.frozen (p:=⟨w.heap.size,0,none⟩) tq5;simp [go_sem, *] at f2_0_0_0)
 try (have e2_0_0_1:=hb2.cell (p:=⟨w.heap.size,1,none⟩) tq5;simp [go_sem, *] at e2_0_0_1)
 try (have f2_0_0_1:=hb2.frozen (p:=⟨w.heap.size,1,none⟩) tq5;simp [go_sem, *] at f2_0_0_1)
 have HB2:=bel_step (w:=w) (by (repeat' (first|refine Below.setCell ?_ tq5 _|refine Below.alloc ?_ tq5 _|refine below_drewN' ?_ _|refine Below.drew ?_|exact Hid.out aM|exact qR))) hb2
 clear hb2
 go_wp2_with (first|(go_at_call 116;refine (itoa_0 _).mono ?_;rintro e w9 ⟨rfl,rfl⟩))
 try simp only [Exit.inBlock,Exit.then]
 refine bodyPost_ret (v:=.string ⟨#[91,48,93]⟩) (by simp [results,results93,go_sem];first|done|decide|rfl) rfl ⟨rfl,by (repeat' (first|refine Below.setCell ?_ tq5 _|refine Below.alloc ?_ tq5 _|refine below_drewN' ?_ _|refine Below.drew ?_|exact Hid.out aM|exact qR))⟩
theorem info9: (prog.info? 9).map (fun i=>(i.zero,i.size,i.bytes))=some (some (.string ⟨#[]⟩),1,16):=by kernel_rfl
theorem join_1(g c:Nat)(w:World)(h0:True)(hg:g<w.heap.size)(hc:0+1≤c)(hx:w.cell? ⟨g,0,none⟩=some (.string ⟨#[91,48,93]⟩)): Calls prog 95 #[.slice (some ⟨g,0,none⟩) 1 c,.string ⟨#[]⟩] w fun e w'=>e=.returned (.string ⟨#[91,48,93]⟩)∧Below w.heap.size w w':=
 Tryz.strings_Join g 0 c [⟨#[91,48,93]⟩] ⟨#[]⟩ w (fun j x hj=>by
  cases j with
  | zero=>simp at hj;subst hj;simpa using hx
  | succ j=>simp at hj) hg sM (by simpa using hc) (by decide)
theorem rev_1(a:Addr)(c:Nat)(w:World): Calls prog 94 #[.slice (some a) 1 c] w fun e w'=>e=.returned (.tuple #[])∧w=w':=by
 go_enter func94,ntmps94
 go_wp2_with (first|(refine wp_loop_unr 3 ?_;refine Unr.step ?_;intro U hU)|(refine Unr.step ?_;intro U hU))
 refine bodyPost_end (v:=.tuple #[]) (by simp [results,results94,go_sem]) rfl ⟨rfl,rfl⟩
theorem path_1(p n L:Nat)(T V:ByteArray)(hD:Doc T V n L)(w:World)(h:Ix w p T n): Calls prog 49 #[.agg #[.pointer (some ⟨p,0,none⟩),.int .i64 1]] w fun e w'=>e=.returned (.string ⟨#[36,91,48,93]⟩)∧Below w.heap.size w w':=by
 obtain ⟨i0,hi0,hz0,hs0,hb0⟩ :=info_parts info9
 go_enter func49,ntmps49
 go_wp2_with (first|(refine wp_loop_unr 3 ?_;refine Unr.step ?_;intro U hU)|(refine Unr.step ?_;intro U hU))
 refine (parent_1 p n L T V hD _ (h.below tq4)).mono ?_;rintro e w1 ⟨rfl,hb1⟩
 have s1:=hb1.size;try simp at s1
 try (have:w.heap.size<w1.heap.size:=oM)
 try (have:w.heap.size<w1.heap.size+1:=oM)
 try (have:w.heap.size<w1.heap.size+1+1:=oM)
 try (have:w.heap.size+1<w1.heap.size:=oM)
 try (have:w.heap.size+1<w1.heap.size+1:=oM)
 try (have:w.heap.size+1<w1.heap.size+1+1:=oM)
 try (have e1_0_0_0:=hb1.cl w.heap.size 0;simp [go_sem, *] at e1_0_0_0)
 try (have f1_0_0_0:=hb1.fz w.heap.size 0;simp [go_sem, *] at f1_0_0_0)
 try (have e1_0_0_1:=hb1.cl w.heap.size 1;simp [go_sem, *] at e1_0_0_1)
 try (have f1_0_0_1:=hb1.fz w.heap.size 1;simp [go_sem, *] at f1_0_0_1)
 try (have e1_0_1_0:=hb1.cl (w.heap.size+1) 0;simp [go_sem, *] at e1_0_1_0)
 try (have f1_0_1_0:=hb1.fz (w.heap.size+1) 0;simp [go_sem, *] at f1_0_1_0)
 try (have e1_0_1_1:=hb1.cl (w.heap.size+1) 1;simp [go_sem, *] at e1_0_1_1)
 try (have f1_0_1_1:=hb1.fz (w.heap.size+1) 1;simp [go_sem, *] at f1_0_1_1)
 have HB1:=bel_step (w:=w) tq4 hb1
 clear hb1
 go_wp2_with (first|(refine wp_loop_unr 3 ?_;refine Unr.step ?_;intro U hU)|(refine Unr.step ?_;intro U hU))
 refine (step_1 p n L T V hD _ (h.below tq4)).mono ?_;rintro e w2 ⟨rfl,hb2⟩
 have s2:=hb2.size;try simp at s2
 try (have:w.heap.size<w2.heap.size:=oM)
 try (have:w.heap.size<w2.heap.size+1:=oM)
 try (have:w.heap.size<w2.heap.size+1+1:=oM)
 try (have:w1.heap.size<w2.heap.size:=oM)
 try (have:w1.heap.size<w2.heap.size+1:=oM)
 try (have:w1.heap.size<w2.heap.size+1+1:=oM)
 try (have e2_0_0_0:=hb2.cl w.heap.size 0;simp [go_sem, *] at e2_0_0_0)
 try (have f2_0_0_0:=hb2.fz w.heap.size 0;simp [go_sem, *] at f2_0_0_0)
 try (have e2_0_0_1:=hb2.cl w.heap.size 1;simp [go_sem, *] at e2_0_0_1)
 try (have f2_0_0_1:=hb2.fz w.heap.size 1;simp [go_sem, *] at f2_0_0_1)
 try (have e2_1_0_0:=hb2.cl w1.heap.size 0;simp [go_sem, *] at e2_1_0_0)
 try (have f2_1_0_0:=hb2.fz w1.heap.size 0;simp [go_sem, *] at f2_1_0_0)
 try (have e2_1_0_1:=hb2.cl w1.heap.size 1;simp [go_sem, *] at e2_1_0_1)
 try (have f2_1_0_1:=hb2.fz w1.heap.size 1;simp [go_sem, *] at f2_1_0_1)
 have HB2:=bel_step (w:=w) tq4 hb2
 clear hb2
 go_wp2_with (first|(at_builtin;refine wpList_push rfl _ _ 24 rfl 9 i0 _ 1 16 underlying24 hi0 hz0 hs0 hb0 rfl oM (Acc.nil qR 9 1) rfl rfl sM rfl rfl oM oM ?_;intro gl cl w3 hA;have hb3:=hA.bel;have s3:=hb3.size;try (have:w.heap.size<w3.heap.size:=oM);try (have:w.heap.size<w3.heap.size+1:=oM);try (have:w.heap.size<w3.heap.size+1+1:=oM);try (have:w1.heap.size<w3.heap.size:=oM);try (have:w1.heap.size<w3.heap.size+1:=oM);try (have:w1.heap.size<w3.heap.size+1+1:=oM);try (have e3_0_0_0:=hb3.cl w.heap.size 0;simp [go_sem, *] at e3_0_0_0);try (have f3_0_0_0:=hb3.fz w.heap.size 0;simp [go_sem, *] at f3_0_0_0);try (have e3_0_0_1:=hb3.cl w.heap.size 1;simp [go_sem, *] at e3_0_0_1);try (have f3_0_0_1:=hb3.fz w.heap.size 1;simp [go_sem, *] at f3_0_0_1);try (have e3_1_0_0:=hb3.cl w1.heap.size 0;simp [go_sem, *] at e3_1_0_0);try (have f3_1_0_0:=hb3.fz w1.heap.size 0;simp [go_sem, *] at f3_1_0_0);try (have e3_1_0_1:=hb3.cl w1.heap.size 1;simp [go_sem, *] at e3_1_0_1);try (have f3_1_0_1:=hb3.fz w1.heap.size 1;simp [go_sem, *] at f3_1_0_1);have HB3:=bel_step (w:=w) tq4 hb3;have hcl:=hA.cap;have gl1:=hA.row.1;have gl2:=hA.row.2.1;have gl3:=hA.row.2.2 0 _ rfl;have:¬gl=w.heap.size:=oM;have:¬w.heap.size=gl:=oM;have:gl<w3.heap.size+1:=oM;clear hA hb3)|(refine wp_loop_unr 3 ?_;refine Unr.step ?_;intro U hU)|(refine Unr.step ?_;intro U hU))
 refine (parent_r p n L T V hD _ (h.below tq4)).mono ?_;rintro e w4 ⟨rfl,hb4⟩
 have s4:=hb4.size;try simp at s4
 try (have:w.heap.size<w4.heap.size:=oM)
 try (have:w.heap.size<w4.heap.size+1:=oM)
 try (have:w.heap.size<w4.heap.size+1+1:=oM)
 try (have:w3.heap.size<w4.heap.size:=oM)
 try (have:w3.heap.size<w4.heap.size+1:=oM)
 try (have:w3.heap.size<w4.heap.size+1+1:=oM)
 try (have e4_0_0_0:=hb4.cl w.heap.size 0;simp [go_sem, *] at e4_0_0_0)
 try (have f4_0_0_0:=hb4.fz w.heap.size 0;simp [go_sem, *] at f4_0_0_0)
 try (have e4_0_0_1:=hb4.cl w.heap.size 1;simp [go_sem, *] at e4_0_0_1)
 try (have f4_0_0_1:=hb4.fz w.heap.size 1;simp [go_sem, *] at f4_0_0_1)
 try (have e4_3_0_0:=hb4.cl w3.heap.size 0;simp [go_sem, *] at e4_3_0_0)
 try (have f4_3_0_0:=hb4.fz w3.heap.size 0;simp [go_sem, *] at f4_3_0_0)
 try (have e4_3_0_1:=hb4.cl w3.heap.size 1;simp [go_sem, *] at e4_3_0_1)
 try (have f4_3_0_1:=hb4.fz w3.heap.size 1;simp [go_sem, *] at f4_3_0_1)
 have HB4:=bel_step (w:=w) tq4 hb4
 have cg:=hb4.cl gl 0
 simp [go_sem, *] at cg
 have:gl<w4.heap.size:=oM
 have:¬w3.heap.size=gl:=oM
 have:¬gl=w3.heap.size:=oM
 clear hb4
 go_wp2_with (first|(go_at_call 94;refine (rev_1 _ _ _).mono ?_;rintro e w9 ⟨rfl,rfl⟩)|(refine wp_loop_unr 3 ?_;refine Unr.step ?_;intro U hU)|(refine Unr.step ?_;intro U hU))
 refine (join_1 gl cl _ sM (by first|(simp [World.setCell];omega)|omega) hcl (by simp [go_sem, *])).mono ?_;rintro e w5 ⟨rfl,hb5⟩
 have HB5:=bel_step (w:=w) tq4 hb5
 clear hb5
 go_wp2_with fail
 try simp only [Exit.inBlock,Exit.then]
 refine bodyPost_ret (v:=.string ⟨#[36,91,48,93]⟩) (by simp [results,results49,go_sem];first|done|decide|rfl) rfl ⟨rfl,tq4⟩
def TxtP (V t:ByteArray):Prop:=∀W:World,Calls prog 177 #[.string V] W fun e w'=>e=.returned (.tuple #[.string t,.int .i64 0])∧Below W.heap.size W w'
def QuoP (t q:ByteArray):Prop:=∀W:World,Calls prog 245 #[.string t] W fun e w'=>e=.returned (.tuple #[.string q,.int .i64 0])∧Below W.heap.size W w'
theorem leaf_n(p n L:Nat)(T V:ByteArray)(hD:Doc T V n L)(hV:0<V.size)(c:Int)(hc:((V[0]'hV).toNat:Int)=c)(hk:c=45∨48≤c∧c≤57)(w:World)(h:Ix w p T n): Calls prog 101 #[.agg #[.pointer (some ⟨p,0,none⟩),.int .i64 1]] w fun e w'=>e=.returned (.string V)∧Below w.heap.size w w':=by
 have hn:=hD.n3
 have hn1:=hD.n1
 have hL:=hD.hL
 have hs:=hD.hn
 have hv:=hD.vs
 go_enter func101,ntmps101
 go_wp2_with fail
 refine (kind_n p n L T V hD hV c hc hk _ (h.below tq4)).mono ?_;rintro e w1 ⟨rfl,hb1⟩
 have s1:=hb1.size;try simp at s1
 try (have:w.heap.size<w1.heap.size:=oM)
 try (have:w.heap.size<w1.heap.size+1:=oM)
 try (have:w.heap.size<w1.heap.size+1+1:=oM)
 try (have e1_0_0_0:=hb1.cl w.heap.size 0;simp [go_sem, *] at e1_0_0_0)
 try (have f1_0_0_0:=hb1.fz w.heap.size 0;simp [go_sem, *] at f1_0_0_0)
 try (have e1_0_0_1:=hb1.cl w.heap.size 1;simp [go_sem, *] at e1_0_0_1)
 try (have f1_0_0_1:=hb1.fz w.heap.size 1;simp [go_sem, *] at f1_0_0_1)
 have HB1:=bel_step (w:=w) tq4 hb1
 clear hb1
 go_wp2_with fail
 refine (raw_1 p n L T V hD _ (h.below tq4)).mono ?_;rintro e w2 ⟨rfl,hb2⟩
 have s2:=hb2.size;try simp at s2
 try (have:w.heap.size<w2.heap.size:=oM)
 try (have:w.heap.size<w2.heap.size+1:=oM)
 try (have:w.heap.size<w2.heap.size+1+1:=oM)
 try (have e2_0_0_0:=hb2.cl w.heap.size 0;simp [go_sem, *] at e2_0_0_0)
 try (have f2_0_0_0:=hb2.fz w.heap.size 0;simp [go_sem, *] at f2_0_0_0)
 try (have e2_0_0_1:=hb2.cl w.heap.size 1;simp [go_sem, *] at e2_0_0_1)
 try (have f2_0_0_1:=hb2.fz w.heap.size 1;simp [go_sem, *] at f2_0_0_1)
 have HB2:=bel_step (w:=w) tq4 hb2
 clear hb2
 go_wp2_with fail
 go_ret
 exact ⟨rfl,tq4⟩
theorem SB.new{B:Nat}(w:World)(hB:B≤w.heap.size): Tx.SB B w.heap.size [] (w.alloc (.cells #[.pointer none,.slice none 0 0] 193)):=.inl ⟨hB,.slice none 0 0,World.alloc_heap_new w _,World.ownsRowF_nil _ _ _ _,by simp [Value.ownBlock]⟩
def LeafP (w:World) (p:Nat) (C:ByteArray):Prop:=∀W:World,Below w.heap.size w W→Calls prog 101 #[.agg #[.pointer (some ⟨p,0,none⟩),.int .i64 1]] W fun e w'=>e=.returned (.string C)∧Below W.heap.size W w'
theorem value_1(p n L:Nat)(T V:ByteArray)(hD:Doc T V n L)(c:Int)(k:Nat)(hV:0<V.size)(hc:((V[0]'hV).toNat:Int)=c)(hk:Kd c k)(hk4:k<4)(C:ByteArray)(hC:C.size≤100000)(w:World)(h:Ix w p T n)(hLf:LeafP w p C): Calls prog 51 #[.agg #[.pointer (some ⟨p,0,none⟩),.int .i64 1]] w fun e w'=>e=.returned (.string C)∧Below w.heap.size w w':=by
 go_enter func51,ntmps51
 go_wp2_with (first|(refine wp_scope_lab 4 ?_;intro K hK)|(refine Lab.step _ rfl ?_;intro K hK)|(refine hK _ _ _ ?_;refine Lab.step _ rfl ?_;intro K hK)|simp only [jumps_goto,jumps_ret,jumps_normal]|simp only [Exit.then,Exit.inBlock,jumps_goto,jumps_ret,jumps_normal]|go_step3)
 have hS0:=SB.new (B:=w.heap.size) (w.alloc (.cells #[.pointer (some ⟨p,0,none⟩),.int .i64 1] 128)) sM
 simp only [World.size_alloc] at hS0
 refine (first_1 p n L T V hD c k hV hc hk hk4 _ (h.below tq4)).mono ?_;rintro e w1 ⟨rfl,hb1⟩
 have s1:=hb1.size;try simp at s1
 try (have:w.heap.size<w1.heap.size:=oM)
 try (have:w.heap.size<w1.heap.size+1:=oM)
 try (have:w.heap.size<w1.heap.size+1+1:=oM)
 try (have:w.heap.size+1<w1.heap.size:=oM)
 try (have:w.heap.size+1<w1.heap.size+1:=oM)
 try (have:w.heap.size+1<w1.heap.size+1+1:=oM)
 try (have e1_0_0_0:=hb1.cl w.heap.size 0;simp [go_sem, *] at e1_0_0_0)
 try (have f1_0_0_0:=hb1.fz w.heap.size 0;simp [go_sem, *] at f1_0_0_0)
 try (have e1_0_0_1:=hb1.cl w.heap.size 1;simp [go_sem, *] at e1_0_0_1)
 try (have f1_0_0_1:=hb1.fz w.heap.size 1;simp [go_sem, *] at f1_0_0_1)
 try (have e1_0_1_0:=hb1.cl (w.heap.size+1) 0;simp [go_sem, *] at e1_0_1_0)
 try (have f1_0_1_0:=hb1.fz (w.heap.size+1) 0;simp [go_sem, *] at f1_0_1_0)
 try (have e1_0_1_1:=hb1.cl (w.heap.size+1) 1;simp [go_sem, *] at e1_0_1_1)
 try (have f1_0_1_1:=hb1.fz (w.heap.size+1) 1;simp [go_sem, *] at f1_0_1_1)
 have HB1:=bel_step (w:=w) tq4 hb1
 have hS1:=hid ((hS0.below hb1).below ((qR.alloc qL (.cells #[.pointer none,.int .i64 0] 128))))
 clear hS0
 clear hb1
 go_wp2_with (first|(refine wp_scope_lab 4 ?_;intro K hK)|(refine Lab.step _ rfl ?_;intro K hK)|(refine hK _ _ _ ?_;refine Lab.step _ rfl ?_;intro K hK)|simp only [jumps_goto,jumps_ret,jumps_normal]|simp only [Exit.then,Exit.inBlock,jumps_goto,jumps_ret,jumps_normal]|go_step3)
 refine (hLf _ tq4).mono ?_;rintro e w2 ⟨rfl,hb2⟩
 have hS2:=hS1.out.below hb2
 have s2:=hb2.size;try simp at s2
 have HB2:=bel_step (w:=w) tq4 hb2
 clear hb2 hS1
 go_wp2_with (first|(refine wp_scope_lab 4 ?_;intro K hK)|(refine Lab.step _ rfl ?_;intro K hK)|(refine hK _ _ _ ?_;refine Lab.step _ rfl ?_;intro K hK)|simp only [jumps_goto,jumps_ret,jumps_normal]|simp only [Exit.then,Exit.inBlock,jumps_goto,jumps_ret,jumps_normal]|go_step3)
 refine (Tx.sb_writeString w.heap.size (w.heap.size+1) [] C _ hS2 sM oM oM).mono ?_;rintro e w3 ⟨rfl,hS3,hk3⟩
 have HB3:Hid (Below w.heap.size w w3):=hid (HB2.out.trans hk3.1)
 have s3:=HB3.out.size
 clear hk3 HB2 hS2
 go_wp2_with (first|(refine wp_scope_lab 4 ?_;intro K hK)|(refine Lab.step _ rfl ?_;intro K hK)|(refine hK _ _ _ ?_;refine Lab.step _ rfl ?_;intro K hK)|simp only [jumps_goto,jumps_ret,jumps_normal]|simp only [Exit.then,Exit.inBlock,jumps_goto,jumps_ret,jumps_normal]|go_step3)
 refine (Tx.sb_string w.heap.size (w.heap.size+1) _ _ hS3 oM).mono ?_;rintro e w4 ⟨rfl,hS4,hk4⟩
 have HB4:Hid (Below w.heap.size w w4):=hid (HB3.out.trans hk4.1)
 have he:(⟨([]++C.data.toList).toArray⟩:ByteArray)=C:=by simp
 rw [he]
 go_wp2_with (first|(refine wp_scope_lab 4 ?_;intro K hK)|(refine Lab.step _ rfl ?_;intro K hK)|(refine hK _ _ _ ?_;refine Lab.step _ rfl ?_;intro K hK)|simp only [jumps_goto,jumps_ret,jumps_normal]|simp only [Exit.then,Exit.inBlock,jumps_goto,jumps_ret,jumps_normal]|go_step3)
 go_ret
 exact ⟨rfl,HB4.out⟩
structure Ss (file:ByteArray) (deep:Int) (lr lc xr xc:Nat) (g:Nat) (W:World):Prop where
 lt:g<W.heap.size
 c0:W.cell? ⟨g,0,none⟩=some (.string file)
 c1:W.cell? ⟨g,1,none⟩=some (.int .i64 deep)
 c2:W.cell? ⟨g,2,none⟩=some (.slice (some ⟨lr,0,none⟩) 1 lc)
 c3:W.cell? ⟨g,3,none⟩=some (.slice (some ⟨xr,0,none⟩) 1 xc)
theorem Ss.of{W W':World}{g:Nat}{file:ByteArray}{deep:Int}{lr lc xr xc:Nat}(h:Ss file deep lr lc xr xc g W)(hs:W.heap.size≤W'.heap.size)(hc:∀c,W'.cell? ⟨g,c,none⟩=W.cell? ⟨g,c,none⟩)(hf:∀c,W'.frozen? ⟨g,c,none⟩=W.frozen? ⟨g,c,none⟩): Ss file deep lr lc xr xc g W':=⟨Nat.lt_of_lt_of_le h.lt hs,(hc 0).trans h.c0,(hc 1).trans h.c1,(hc 2).trans h.c2,(hc 3).trans h.c3⟩
theorem Ss.below{W W':World}{g:Nat}{file:ByteArray}{deep:Int}{lr lc xr xc:Nat}(h:Ss file deep lr lc xr xc g W)(hb:Below W.heap.size W W'): Ss file deep lr lc xr xc g W':=h.of hb.size (fun c=>hb.cell (p:=⟨g,c,none⟩) h.lt) (fun c=>hb.frozen (p:=⟨g,c,none⟩) h.lt)
theorem Ss.set{W:World}{g:Nat}{file:ByteArray}{deep:Int}{lr lc xr xc:Nat}(h:Ss file deep lr lc xr xc g W){a:Addr}(hne:a.block≠g)(v:Value): Ss file deep lr lc xr xc g (W.setCell a v):=h.of (by simp [World.setCell]) (fun c=>qO (by intro e;exact hne (by rw [e]))) (fun c=>qF)
structure Lr (n:Nat) (at_:Int) (g:Nat) (W:World):Prop where
 lt:g<W.heap.size
 c0:W.cell? ⟨g,0,none⟩=some (.int .i64 0)
 c1:W.cell? ⟨g,1,none⟩=some (.int .i64 n)
 c2:W.cell? ⟨g,2,none⟩=some (.int .i64 1)
 c3:W.cell? ⟨g,3,none⟩=some (.int .i64 at_)
theorem Lr.of{W W':World}{g:Nat}{n:Nat}{at_:Int}(h:Lr n at_ g W)(hs:W.heap.size≤W'.heap.size)(hc:∀c,W'.cell? ⟨g,c,none⟩=W.cell? ⟨g,c,none⟩)(hf:∀c,W'.frozen? ⟨g,c,none⟩=W.frozen? ⟨g,c,none⟩): Lr n at_ g W':=⟨Nat.lt_of_lt_of_le h.lt hs,(hc 0).trans h.c0,(hc 1).trans h.c1,(hc 2).trans h.c2,(hc 3).trans h.c3⟩
theorem Lr.below{W W':World}{g:Nat}{n:Nat}{at_:Int}(h:Lr n at_ g W)(hb:Below W.heap.size W W'): Lr n at_ g W':=h.of hb.size (fun c=>hb.cell (p:=⟨g,c,none⟩) h.lt) (fun c=>hb.frozen (p:=⟨g,c,none⟩) h.lt)
theorem Lr.set{W:World}{g:Nat}{n:Nat}{at_:Int}(h:Lr n at_ g W){a:Addr}(hne:a.block≠g)(v:Value): Lr n at_ g (W.setCell a v):=h.of (by simp [World.setCell]) (fun c=>qO (by intro e;exact hne (by rw [e]))) (fun c=>qF)
structure Xr (p:Nat) (g:Nat) (W:World):Prop where
 lt:g<W.heap.size
 c0:W.cell? ⟨g,0,none⟩=some (.pointer (some ⟨p,0,none⟩))
theorem Xr.of{W W':World}{g:Nat}{p:Nat}(h:Xr p g W)(hs:W.heap.size≤W'.heap.size)(hc:∀c,W'.cell? ⟨g,c,none⟩=W.cell? ⟨g,c,none⟩)(hf:∀c,W'.frozen? ⟨g,c,none⟩=W.frozen? ⟨g,c,none⟩): Xr p g W':=⟨Nat.lt_of_lt_of_le h.lt hs,(hc 0).trans h.c0⟩
theorem Xr.below{W W':World}{g:Nat}{p:Nat}(h:Xr p g W)(hb:Below W.heap.size W W'): Xr p g W':=h.of hb.size (fun c=>hb.cell (p:=⟨g,c,none⟩) h.lt) (fun c=>hb.frozen (p:=⟨g,c,none⟩) h.lt)
theorem Xr.set{W:World}{g:Nat}{p:Nat}(h:Xr p g W){a:Addr}(hne:a.block≠g)(v:Value): Xr p g (W.setCell a v):=h.of (by simp [World.setCell]) (fun c=>qO (by intro e;exact hne (by rw [e]))) (fun c=>qF)
def Se (w:World) (s p n:Nat):Prop:=∃file deep lr lc xr xc at_,Ss file deep lr lc xr xc s w∧Lr n at_ lr w∧Xr p xr w
theorem Se.below{w w':World}{s p n:Nat}(h:Se w s p n)(hb:Below w.heap.size w w'): Se w' s p n:=by
 obtain ⟨file,deep,lr,lc,xr,xc,at_,h1,h2,h3⟩ :=h
 exact ⟨file,deep,lr,lc,xr,xc,at_,h1.below hb,h2.below hb,h3.below hb⟩
theorem info125: (prog.info? 132).map (fun i=>(i.zero,i.size,i.bytes))=some (some (.agg #[.string ⟨#[]⟩,.int .i64 0,.int .i64 0,.int .i64 0,.string ⟨#[]⟩]),5,56):=by kernel_rfl
end
section
set_option maxRecDepth 100000
open Go.RowKit Go.Shelf
attribute [local go_sem] Oper.semAt_some
inductive Ms (s:ByteArray):Nat→Bool→List (Int × Int)→Prop
 | nil (k:Nat) (b:Bool):s.size≤k→Ms s k b []
 | escT (k:Nat) (ys:List (Int × Int)) (h:k<s.size):((s[k]'h).toNat:Int)=92→Ms s (k+2) true ys→Ms s k true ys
 | outT (k:Nat) (ys:List (Int × Int)) (h:k<s.size):((s[k]'h).toNat:Int)=34→Ms s (k+1) false ys→Ms s k true ys
 | skipT (k:Nat) (ys:List (Int × Int)) (h:k<s.size):((s[k]'h).toNat:Int)≠34→((s[k]'h).toNat:Int)≠92→Ms s (k+1) true ys→Ms s k true ys
 | inF (k:Nat) (ys:List (Int × Int)) (h:k<s.size):((s[k]'h).toNat:Int)=34→Ms s (k+1) true ys→Ms s k false ys
 | skipF (k:Nat) (ys:List (Int × Int)) (h:k<s.size):(45≤((s[k]'h).toNat:Int)∧((s[k]'h).toNat:Int)≤57)∨((s[k]'h).toNat:Int)=43∨((s[k]'h).toNat:Int)=69∨((s[k]'h).toNat:Int)=101→Ms s (k+1) false ys→Ms s k false ys
 | yldF (k:Nat) (ys:List (Int × Int)) (c:Int) (h:k<s.size):((s[k]'h).toNat:Int)=c→c=91∨c=93→Ms s (k+1) false ys→Ms s k false (((k:Int),c)::ys)
theorem mis_yes(c:Int)(h:c=91∨c=93)(w:World): Calls prog 138 #[.int .u8 c] w fun e w'=>e=.returned (.bool true)∧w=w':=by
 rcases h with rfl|rfl
 all_goals
  go_enter func138,ntmps138
  go_wp2
  go_ret
  exact ⟨rfl,rfl⟩
theorem mis_no(c:Int)(h:(45≤c∧c≤57)∨c=43∨c=69∨c=101)(w:World): Calls prog 138 #[.int .u8 c] w fun e w'=>e=.returned (.bool false)∧w=w':=by
 have:(c==91)=false:=by rw [beq_eq_false_iff_ne];omega
 have:(c==93)=false:=by rw [beq_eq_false_iff_ne];omega
 have:(c==123)=false:=by rw [beq_eq_false_iff_ne];omega
 have:(c==125)=false:=by rw [beq_eq_false_iff_ne];omega
 have:(c==58)=false:=by rw [beq_eq_false_iff_ne];omega
 have:(c==44)=false:=by rw [beq_eq_false_iff_ne];omega
 clear h
 go_enter func138,ntmps138
 go_wp2
 go_ret
 exact ⟨rfl,rfl⟩
theorem each_any(n:Nat)(s:ByteArray)(w:World):
  CallsIn Fence.wide n prog 66 #[.string s] w fun e w'=>e=.returned (.func (.func 137) #[] #[.pointer (some ⟨w.heap.size,0,none⟩)])∧w'=w.alloc (.cells #[.string s] 9):=by
 refine callsIn_of_wp func66 rfl trivial ?_ rfl
 simp only [ntmps66,List.size_toArray,List.length_cons,List.length_nil,Nat.reduceAdd,Nat.reduceSub,Array.replicate_succ,Array.replicate_zero,List.push_toArray,List.append_toArray,List.nil_append,List.cons_append]
 gi_wp2
 go_ret
 exact ⟨rfl,rfl⟩
theorem each1_in(n:Nat)(hn:1≤n)(l Bn:Nat)(s:ByteArray)(hs:s.size≤100000)(zs:List (Int × Int))(hZ:Ms s 0 false zs)(J Jx:List (Int × Int)→World→Prop)(hY:∀pre x W,J pre W→pre.length<zs.length→YieldAt Fence.wide (n-1) prog l #[.int .i64 x.1,.int .u8 x.2] W fun e W'=>
   (e=.returned (.bool true)∧J (pre++[x]) W'∧Tx.KpB Bn W W')∨(e=.returned (.bool false)∧Jx (pre++[x]) W'))(W:World)(hBn:W.cell? ⟨Bn,0,none⟩=some (.string s))(h0:J [] W):
  CallsIn Fence.wide n prog 137 #[.func (.yield l) #[] #[],.pointer (some ⟨Bn,0,none⟩)] W fun e W'=>(∃v,e=.returned v)∧
   ((∃ys,ys=zs∧J ys W')∨(∃pre,pre <+: zs∧Jx pre W')):=by
 refine callsIn_of_wp func137 rfl trivial ?_ rfl
 simp only [ntmps137,List.size_toArray,List.length_cons,List.length_nil,Nat.reduceAdd,Nat.reduceSub,Array.replicate_succ,Array.replicate_zero,List.push_toArray,List.append_toArray,List.nil_append,List.cons_append]
 gi_wp2
 refine wpIn_wide.2 (wp_scope_straight ((wpIn_wide (n:=n)).1 ?_))
 gi_wp2
 rename_i hK0
 refine wpIn_label (hK0 _ _ ?_)
 clear hK0
 gi_wp2
 gi_loopw [3,4] (fun vb vk wr=>∃(k:Nat) (b:Bool) (pre ys:List (Int × Int)),vb=.bool b∧vk=.int .i64 k∧k≤s.size+1∧Ms s k b ys∧Hid (zs=pre++ys)∧J pre wr∧wr.cell? ⟨Bn,0,none⟩=some (.string s)) (fun _ v _=>s.size+2-(intOf v).toNat)
 case atStart=>exact ⟨0,false,[],zs,rfl,rfl,by omega,hZ,hid rfl,h0,hBn⟩
 case round=>
  clear hZ h0 hBn
  obtain ⟨k,b,pre,ys,rfl,rfl,hk,hM,hX,hJ,hB⟩ :=hrel
  cases hM with
  | nil _ _ hle=>
   have hki:¬(k:Int)<(s.size:Int):=oM
   have hE:Hid (pre=zs):=hid (by rw [hX.out];simp)
   gi_wp2
   go_end0
   exact ⟨⟨_,rfl⟩,.inl ⟨_,hE.out,hJ⟩⟩
  | escT _ _ hlt hc hM=>
   have hki:(k:Int)<(s.size:Int):=oM
   gi_wp2
   go_roundw
   case rel=>exact ⟨k+2,true,pre,ys,rfl,by go_num,by omega,hM,hX,hJ,hB⟩
   case measure=>simp [intOf];omega
  | outT _ _ hlt hc hM=>
   have hki:(k:Int)<(s.size:Int):=oM
   gi_wp2
   go_roundw
   case rel=>exact ⟨k+1,false,pre,ys,rfl,by go_num,by omega,hM,hX,hJ,hB⟩
   case measure=>simp [intOf];omega
  | skipT _ _ hlt h34 h92 hM=>
   have hki:(k:Int)<(s.size:Int):=oM
   have d1:(((s[k]'hlt).toNat:Int)==34)=false:=by rw [beq_eq_false_iff_ne];exact h34
   have:(((s[k]'hlt).toNat:Int)==92)=false:=by rw [beq_eq_false_iff_ne];exact h92
   clear h34 h92
   gi_wp2
   refine ⟨trivial,?_⟩
   rename_i hK
   refine hK _ _ ?_
   clear hK
   gi_wp2
   go_roundw
   case rel=>exact ⟨k+1,true,pre,ys,rfl,by go_num,by omega,hM,hX,hJ,hB⟩
   case measure=>simp [intOf];omega
  | inF _ _ hlt hc hM=>
   have hki:(k:Int)<(s.size:Int):=oM
   gi_wp2
   go_roundw
   case rel=>exact ⟨k+1,true,pre,ys,rfl,by go_num,by omega,hM,hX,hJ,hB⟩
   case measure=>simp [intOf];omega
  | skipF _ _ hlt hc hM=>
   have hki:(k:Int)<(s.size:Int):=oM
   have d1:(((s[k]'hlt).toNat:Int)==34)=false:=by rw [beq_eq_false_iff_ne];omega
   gi_wp2_with (refine ⟨trivial,?_⟩;gi_at_call 138;refine (callsIn_wide.2 (mis_no _ hc _)).mono ?_;rintro e w' ⟨rfl,rfl⟩)
   go_roundw
   case rel=>exact ⟨k+1,false,pre,ys,rfl,by go_num,by omega,hM,hX,hJ,hB⟩
   case measure=>simp [intOf];omega
  | yldF _ ys c hlt hc hcc hM=>
   have hki:(k:Int)<(s.size:Int):=oM
   have d1:(c==34)=false:=by rw [beq_eq_false_iff_ne];omega
   have hlen:pre.length<zs.length:=by rw [hX.out];simp
   have hX2:Hid (zs=(pre++[((k:Int),c)])++ys):=hid (by rw [hX.out];simp)
   obtain ⟨fn,tmps,assign,body,hy,hR⟩ :=hY pre ((k:Int),c) wr hJ hlen
   dsimp only at hy
   gi_wp2_with (refine ⟨trivial,?_⟩;gi_at_call 138;refine (callsIn_wide.2 (mis_yes _ hcc _)).mono ?_;rintro e w' ⟨rfl,rfl⟩)
   refine hR.mono ?_
   rintro e W3 (⟨rfl,hJ3,hk3⟩|⟨rfl,hJx3⟩)
   ·have hB3:=hk3 _ hB
    gi_wp2
    go_roundw
    case rel=>go_light;exact ⟨k+1,false,_,ys,rfl,by go_num,by omega,hM,hX2,hJ3,hB3⟩
    case measure=>simp [intOf];omega
   ·gi_wp2
    rw [Exit.noGoto_ret]
    refine bodyPost_ret (results_none rfl _ _ _) rfl ?_
    exact ⟨⟨_,rfl⟩,.inr ⟨_,⟨ys,by rw [hX2.out]⟩,hJx3⟩⟩
end
section
set_option maxRecDepth 100000
open Go.RowKit Go.Shelf
attribute [local go_sem] Oper.semAt_some
theorem each_stops(n:Nat)(hn:1≤n)(Bn:Nat)(s:ByteArray)(hs:s.size≤100000)(zs:List (Int × Int))(hZ:Ms s 0 false zs)(w:World)(hBn:Bn<w.heap.size)(hc:w.cell? ⟨Bn,0,none⟩=some (.string s)):
  SeqStopsK Fence.wide n prog 137 #[.pointer (some ⟨Bn,0,none⟩)] (fun x:Int × Int=>#[Value.int .i64 x.1,Value.int .u8 x.2]) (Tx.KpB Bn) (fun ys=>ys=zs) (fun pre=>pre <+: zs) zs.length w:=fun l J Jx W hW _ _ hY h0=>
 each1_in n hn l Bn s hs zs hZ J Jx hY W ((hW.cell (p:=⟨Bn,0,none⟩) hBn).trans hc) h0
theorem info4: (prog.info? 4).map (fun i=>(i.zero,i.size,i.bytes))=some (some (.bool false),1,1):=by kernel_rfl
theorem boxed_own{W W':World}{row:Option Nat}{B:Nat}{t:TypeId}{v:Value}(h:Boxed W B t v)(hg:W.grownBy W' row)(hr:∀r,row=some r→∃o:Obj,W.heap[r]?=some o∧o.isCells=false): Boxed W' B t v:=
 h.kept hg fun e'=>by
  obtain ⟨o,ho,hc⟩ :=hr B e'.symm
  rw [show W.heap[B]?=_ from h] at ho;cases ho;cases hc
theorem Boxed.other{W:World}{B q:Nat}{t:TypeId}{v:Value}(h:Boxed W B t v)(hq:B≠q)(v':Value): Boxed (W.setCell ⟨q,0,none⟩ v') B t v:=by
 unfold Boxed at *;rw [Below.heap_setCell _ _ _ _ hq];exact h
theorem Boxed.kp{W W':World}{B:Nat}{t:TypeId}{v:Value}(h:Boxed W B t v)(h':Boxed W' B t v): Tx.KpB B W W':=fun u hu=>by
 rw [h.cell] at hu;injection hu with hu;subst hu;exact h'.cell
def PlI (w:World) (s:ByteArray) (pre:List (Int × Int)) (W:World):Prop:=(∃v,Boxed W w.heap.size 31 v∧W.ownsRow w.heap.size 3 1 v pre.length (pre.map fun x=>Value.int .i64 x.1)∧True)∧Boxed W (w.heap.size+1) 9 (.string s)
theorem places_any(s:ByteArray)(hs:s.size≤100000)(L:Nat)(hZ:Ms s 0 false [((0:Int),(91:Int)),((L:Int),(93:Int))])(w:World):
  Calls prog 38 #[.string s] w fun e w'=>∃g c,e=.returned (.slice (some ⟨g,0,none⟩) 2 c)∧Two w' g L∧Below w.heap.size w w':=by
 obtain ⟨i0,hi,hz0,hz1,hz2⟩ :=info_parts info3
 refine (callsIn_wide (n:=5)).1 ?_
 refine callsIn_of_wp_marks func38 rfl trivial ?_ rfl
 simp only [ntmps38,List.size_toArray,List.length_cons,List.length_nil,Nat.reduceAdd,Nat.reduceSub,Array.replicate_succ,Array.replicate_zero,List.push_toArray,List.append_toArray,List.nil_append,List.cons_append]
 gi_wp2_with (refine ⟨trivial,?_⟩;gi_at_call 66;refine (each_any _ s _).mono ?_;rintro e w' ⟨rfl,rfl⟩)
 have bO:=Boxed.new w 31 (.slice none 0 0)
 have bN:=Boxed.new (w.alloc (.cells #[.slice none 0 0] 31)) 9 (.string s)
 rw [World.size_alloc] at bN
 have hB0:Below w.heap.size w ((w.alloc (.cells #[.slice none 0 0] 31)).alloc (.cells #[.string s] 9)):=((Below.refl _ w).alloc qL _).alloc sM _
 refine wpIn_rangeFunc_ownF rfl oM (gf:=137) (lb:=#[.pointer (some ⟨w.heap.size+1,0,none⟩)]) rfl trivial (enters_of func137 (by kernel_rfl) rfl)
  (each_stops _ oM (w.heap.size+1) s hs _ hZ _ sM bN.cell) Tx.KpB_t Tx.KpB_b qR (fun _=>rfl)
  (fun pre W=>PlI w s pre W∧Below w.heap.size w W)
  (fun _ _ _=>False)
  (OwnFrom.and (Own.from (fun p A B row hs hg hr=>⟨holdsRow_own w.heap.size w.heap.size 31 3 1 (fun pre:List (Int × Int)=>pre.length) (fun pre=>pre.map fun x=>Value.int .i64 x.1) (fun _ _=>True) p A B row hs.1 hg hr,boxed_own hs.2 hg hr⟩) _) (ownFrom_below qL (by simp;omega)))
  (fun _ _ _ _ _ hs _ _=>hs)
  ⟨⟨⟨_,bO.alloc _,World.ownsRow_nil _ _ _ _,trivial⟩,bN⟩,hB0⟩
  (fun x=>{ tmps:=#[.string s,undef,.slice none 0 0,.pointer (some ⟨w.heap.size,0,none⟩),.int .i64 x.1,.string s,.func (.func 137) #[] #[.pointer (some ⟨w.heap.size+1,0,none⟩)],.int .i64 x.1,.int .u8 x.2,undef,undef,undef,undef,undef],defers:=[] }) ?assign ?body ?done ?stop
 case assign=>
  intro l x W K hK
  gi_wp2
  exact hK
 case body=>
  rintro l pre x W ⟨⟨⟨v,hv,hrow,-⟩,hN⟩,hB⟩ hlt
  have hc:=hv.cell
  have:pre.length<2:=hlt
  gi_wp2_with (gi_at_builtin;refine wpListIn_append_own _ rfl _ _ 31 rfl w.heap.size 3 i0 (.int .i64 0) 1 8 underlying31 hi hz0 hz1 hz2 rfl (by decide) _ _ _ rfl (hrow.alloc _) ⟨W.heap.size,0,none⟩ 1 1 [.int .i64 x.1] rfl rfl (cell_one_new _ _ _) (by simp [Value.oneCell']) (by unfold maxLen;omega) oM (by have:=hB.size;simp;omega) ?_;intro v' w1 hown' hgrow _;obtain ⟨g',cap',rfl⟩ :=ownsRow_succ hown';have hN2:=((hN.alloc _).kept hgrow (hN.not_row (by decide) hrow)).other (show w.heap.size+1≠w.heap.size by omega) (.slice (some ⟨g',0,none⟩) (pre.length+1) cap');obtain ⟨hv1,hv2,hr2,hk2,hb2⟩ :=hv.appended (by decide) hrow hB.size qL hown' hgrow;have hc1:=hv1.cell;have hf1:=hv1.frozen)
  exact ⟨hk2,Boxed.kp hN hN2,⟨⟨⟨_,hv2,by simpa using hr2,trivial⟩,hN2⟩,hB.trans hb2⟩⟩
 case done=>
  rintro D ys W hD rfl ⟨⟨⟨v,hv,hrow,-⟩,hN⟩,hB⟩ hK
  obtain ⟨g,cap,rfl⟩ :=ownsRow_succ (k:=1) hrow
  have hc:=hv.cell
  have hr:=ownsRow_putObj hrow (.deferred none) hK rfl
  have hb:=hB.trans (belowK_b (w:=w) qL W D _ (.deferred none) (by simp at hD;omega) hK rfl rfl)
  have hA:Acc w _ 3 1 (.slice (some ⟨g,0,none⟩) (1+1) cap) (1+1) _:=⟨hr,hb⟩
  have hrw:=hA.row
  have HT:Hid (Two _ g L):=hid ⟨hrw.2.1,hrw.2.2 0 _ rfl,hrw.2.2 1 _ rfl⟩
  clear hrw hA hr
  gi_wp2
  refine ⟨by simp,.inl ⟨_,_,rfl,run_takeDeferred hK,?_⟩⟩
  exact ⟨_,results_tmp rfl _ _ _,g,cap,rfl,HT.out,hb⟩
 case stop=>
  rintro D c pre W _ _ h _
  exact h.elim
def prs (c:Int):List Value:=if c=91∨c=123 then [.bool true,.bool true] else if c=93∨c=125 then [.bool false,.bool false] else [.bool false,.bool true]
def PrI (w:World) (s:ByteArray) (pre:List (Int × Int)) (W:World):Prop:=(∃v,Boxed W w.heap.size 26 v∧W.ownsRow w.heap.size 4 1 v (2 * pre.length) (pre.flatMap fun x=>prs x.2)∧True)∧Boxed W (w.heap.size+1) 9 (.string s)
def Four (w:World) (g:Nat):Prop:=g<w.heap.size∧w.cell? ⟨g,0,none⟩=some (.bool true)∧w.cell? ⟨g,1,none⟩=some (.bool true)∧w.cell? ⟨g,2,none⟩=some (.bool false)∧w.cell? ⟨g,3,none⟩=some (.bool false)
theorem Four.below{w w':World}{g:Nat}(h:Four w g)(hb:Below w.heap.size w w'): Four w' g:=
 ⟨Nat.lt_of_lt_of_le h.1 hb.size,(hb.cell (p:=⟨g,0,none⟩) h.1).trans h.2.1,(hb.cell (p:=⟨g,1,none⟩) h.1).trans h.2.2.1,(hb.cell (p:=⟨g,2,none⟩) h.1).trans h.2.2.2.1,(hb.cell (p:=⟨g,3,none⟩) h.1).trans h.2.2.2.2⟩
set_option maxHeartbeats 4000000 in
theorem parens_any(s:ByteArray)(hs:s.size≤100000)(L:Nat)(hZ:Ms s 0 false [((0:Int),(91:Int)),((L:Int),(93:Int))])(w:World):
  Calls prog 42 #[.string s] w fun e w'=>∃g c,e=.returned (.slice (some ⟨g,0,none⟩) 4 c)∧Four w' g∧Below w.heap.size w w':=by
 obtain ⟨i0,hi,hz0,hz1,hz2⟩ :=info_parts info4
 refine (callsIn_wide (n:=5)).1 ?_
 refine callsIn_of_wp_marks func42 rfl trivial ?_ rfl
 simp only [ntmps42,List.size_toArray,List.length_cons,List.length_nil,Nat.reduceAdd,Nat.reduceSub,Array.replicate_succ,Array.replicate_zero,List.push_toArray,List.append_toArray,List.nil_append,List.cons_append]
 gi_wp2_with (refine ⟨trivial,?_⟩;gi_at_call 66;refine (each_any _ s _).mono ?_;rintro e w' ⟨rfl,rfl⟩)
 have bO:=Boxed.new w 26 (.slice none 0 0)
 have bN:=Boxed.new (w.alloc (.cells #[.slice none 0 0] 26)) 9 (.string s)
 rw [World.size_alloc] at bN
 have hB0:Below w.heap.size w ((w.alloc (.cells #[.slice none 0 0] 26)).alloc (.cells #[.string s] 9)):=((Below.refl _ w).alloc qL _).alloc sM _
 refine wpIn_rangeFunc_ownF rfl oM (gf:=137) (lb:=#[.pointer (some ⟨w.heap.size+1,0,none⟩)]) rfl trivial (enters_of func137 (by kernel_rfl) rfl)
  (each_stops _ oM (w.heap.size+1) s hs _ hZ _ sM bN.cell) Tx.KpB_t Tx.KpB_b qR (fun _=>rfl)
  (fun pre W=>PrI w s pre W∧Below w.heap.size w W)
  (fun _ _ _=>False)
  (OwnFrom.and (Own.from (fun p A B row hs hg hr=>⟨holdsRow_own w.heap.size w.heap.size 26 4 1 (fun pre:List (Int × Int)=>2 * pre.length) (fun pre=>pre.flatMap fun x=>prs x.2) (fun _ _=>True) p A B row hs.1 hg hr,boxed_own hs.2 hg hr⟩) _) (ownFrom_below qL (by simp;omega)))
  (fun _ _ _ _ _ hs _ _=>hs)
  ⟨⟨⟨_,bO.alloc _,World.ownsRow_nil _ _ _ _,trivial⟩,bN⟩,hB0⟩
  (fun x=>{ tmps:=#[.string s,undef,.slice none 0 0,.pointer (some ⟨w.heap.size,0,none⟩),undef,.int .u8 x.2,.string s,.func (.func 137) #[] #[.pointer (some ⟨w.heap.size+1,0,none⟩)],.int .i64 x.1,.int .u8 x.2,undef,undef,undef,undef,undef,undef,undef,undef,undef,undef,undef,undef,undef,undef,undef,undef,undef],defers:=[] }) ?assign ?body ?done ?stop
 case assign=>
  intro l x W K hK
  gi_wp2
  exact hK
 case body=>
  rintro l pre ⟨x1,x2⟩ W ⟨⟨⟨v,hv,hrow,-⟩,hN⟩,hB⟩ hlt
  have hc:=hv.cell
  have:pre.length<2:=hlt
  have key:∀(a b:Bool) (hp:prs x2=[.bool a,.bool b]) (v':Value) (w1:World),w1.ownsRow w.heap.size 4 1 v' (2 * pre.length+2) ((pre.flatMap fun x=>prs x.2)++[.bool a,.bool b])→(W.alloc (.cells #[.bool a,.bool b] 4)).grownBy w1 v.ownBlock→∃g cap,v'=.slice (some ⟨g,0,none⟩) (2 * pre.length+2) cap∧w1.cell? ⟨w.heap.size,0,none⟩=some v∧w1.frozen? ⟨w.heap.size,0,none⟩=false∧Hid (ownPostK (Tx.KpB (w.heap.size+1)) (fun pre W=>PrI w s pre W∧Below w.heap.size w W) (fun _ _ _=>False) (pre++[(x1,x2)]) W .normal { tmps:=#[],defers:=[] } (w1.setCell ⟨w.heap.size,0,none⟩ v')):=by
   intro a b hp v' w1 hown' hgrow
   obtain ⟨g',cap',rfl⟩ :=ownsRow_succ hown'
   have hN2:=Boxed.other ((hN.alloc _).kept hgrow (hN.not_row (by decide) hrow)) (show w.heap.size+1≠w.heap.size by omega) (.slice (some ⟨g',0,none⟩) (2 * pre.length+1+1) cap')
   obtain ⟨hv1,hv2,hr2,hk2,hb2⟩ :=hv.appended (by decide) hrow hB.size qL hown' hgrow
   refine ⟨g',cap',rfl,hv1.cell,hv1.frozen,hid ⟨hk2,Boxed.kp hN hN2,⟨⟨⟨_,hv2,?_,trivial⟩,hN2⟩,hB.trans hb2⟩⟩⟩
   simpa [hp,Nat.mul_add] using hr2
  by_cases h91:x2=91
  ·subst h91
   have key':=key true true (by first|rfl|simp [prs])
   clear key
   gi_wp2_with (gi_at_builtin;refine wpListIn_append_own _ rfl _ _ 26 rfl w.heap.size 4 i0 (.bool false) 1 1 underlying26 hi hz0 hz1 hz2 rfl (by decide) _ _ _ rfl (hrow.alloc _) ⟨W.heap.size,0,none⟩ 2 2 [.bool true,.bool true] rfl rfl (World.news_of_block (heap_alloc_new _ _)) (by simp [Value.oneCell']) (by unfold maxLen;omega) oM (by have:=hB.size;simp;omega) ?_;intro v' w1 hown' hgrow _;obtain ⟨g',cap',rfl,hc1,hf1,HK⟩ :=key' v' w1 hown' hgrow)
   exact HK.out
  by_cases h123:x2=123
  ·subst h123
   have key':=key true true (by first|rfl|simp [prs])
   clear key
   gi_wp2_with (gi_at_builtin;refine wpListIn_append_own _ rfl _ _ 26 rfl w.heap.size 4 i0 (.bool false) 1 1 underlying26 hi hz0 hz1 hz2 rfl (by decide) _ _ _ rfl (hrow.alloc _) ⟨W.heap.size,0,none⟩ 2 2 [.bool true,.bool true] rfl rfl (World.news_of_block (heap_alloc_new _ _)) (by simp [Value.oneCell']) (by unfold maxLen;omega) oM (by have:=hB.size;simp;omega) ?_;intro v' w1 hown' hgrow _;obtain ⟨g',cap',rfl,hc1,hf1,HK⟩ :=key' v' w1 hown' hgrow)
   exact HK.out
  by_cases h93:x2=93
  ·subst h93
   have key':=key false false (by first|rfl|simp [prs])
   clear key
   gi_wp2_with (gi_at_builtin;refine wpListIn_append_own _ rfl _ _ 26 rfl w.heap.size 4 i0 (.bool false) 1 1 underlying26 hi hz0 hz1 hz2 rfl (by decide) _ _ _ rfl (hrow.alloc _) ⟨W.heap.size,0,none⟩ 2 2 [.bool false,.bool false] rfl rfl (World.news_of_block (heap_alloc_new _ _)) (by simp [Value.oneCell']) (by unfold maxLen;omega) oM (by have:=hB.size;simp;omega) ?_;intro v' w1 hown' hgrow _;obtain ⟨g',cap',rfl,hc1,hf1,HK⟩ :=key' v' w1 hown' hgrow)
   exact HK.out
  by_cases h125:x2=125
  ·subst h125
   have key':=key false false (by first|rfl|simp [prs])
   clear key
   gi_wp2_with (gi_at_builtin;refine wpListIn_append_own _ rfl _ _ 26 rfl w.heap.size 4 i0 (.bool false) 1 1 underlying26 hi hz0 hz1 hz2 rfl (by decide) _ _ _ rfl (hrow.alloc _) ⟨W.heap.size,0,none⟩ 2 2 [.bool false,.bool false] rfl rfl (World.news_of_block (heap_alloc_new _ _)) (by simp [Value.oneCell']) (by unfold maxLen;omega) oM (by have:=hB.size;simp;omega) ?_;intro v' w1 hown' hgrow _;obtain ⟨g',cap',rfl,hc1,hf1,HK⟩ :=key' v' w1 hown' hgrow)
   exact HK.out
  have:(x2==91)=false:=by rw [beq_eq_false_iff_ne];exact h91
  have:(x2==123)=false:=by rw [beq_eq_false_iff_ne];exact h123
  have:(x2==93)=false:=by rw [beq_eq_false_iff_ne];exact h93
  have:(x2==125)=false:=by rw [beq_eq_false_iff_ne];exact h125
  have key':=key false true (by unfold prs;rw [if_neg (by omega),if_neg (by omega)])
  clear key h91 h123 h93 h125
  gi_wp2_with (gi_at_builtin;refine wpListIn_append_own _ rfl _ _ 26 rfl w.heap.size 4 i0 (.bool false) 1 1 underlying26 hi hz0 hz1 hz2 rfl (by decide) _ _ _ rfl (hrow.alloc _) ⟨W.heap.size,0,none⟩ 2 2 [.bool false,.bool true] rfl rfl (World.news_of_block (heap_alloc_new _ _)) (by simp [Value.oneCell']) (by unfold maxLen;omega) oM (by have:=hB.size;simp;omega) ?_;intro v' w1 hown' hgrow _;obtain ⟨g',cap',rfl,hc1,hf1,HK⟩ :=key' v' w1 hown' hgrow)
  exact HK.out
 case done=>
  rintro D ys W hD rfl ⟨⟨⟨v,hv,hrow,-⟩,hN⟩,hB⟩ hK
  obtain ⟨g,cap,rfl⟩ :=ownsRow_succ (k:=3) hrow
  have hc:=hv.cell
  have hr:=ownsRow_putObj hrow (.deferred none) hK rfl
  have hb:=hB.trans (belowK_b (w:=w) qL W D _ (.deferred none) (by simp at hD;omega) hK rfl rfl)
  have hA:Acc w _ 4 1 (.slice (some ⟨g,0,none⟩) (3+1) cap) (3+1) _:=⟨hr,hb⟩
  have hrw:=hA.row
  have HT:Hid (Four _ g):=hid ⟨hrw.2.1,hrw.2.2 0 _ rfl,hrw.2.2 1 _ rfl,hrw.2.2 2 _ rfl,hrw.2.2 3 _ rfl⟩
  clear hrw hA hr
  gi_wp2
  refine ⟨by simp,.inl ⟨_,_,rfl,run_takeDeferred hK,?_⟩⟩
  exact ⟨_,results_tmp rfl _ _ _,g,cap,rfl,HT.out,hb⟩
 case stop=>
  rintro D c pre W _ _ h _
  exact h.elim
end
section
open Go.RowKit
theorem Four.oth{w w':World}{g p q:Nat}(h:Four w g)(o:Oth w w' p q)(h1:g≠p)(h2:g≠q): Four w' g:=
 ⟨Nat.lt_of_lt_of_le h.1 o.size,(o.cell ⟨g,0,none⟩ h.1 h1 h2).trans h.2.1,(o.cell ⟨g,1,none⟩ h.1 h1 h2).trans h.2.2.1,(o.cell ⟨g,2,none⟩ h.1 h1 h2).trans h.2.2.2.1,(o.cell ⟨g,3,none⟩ h.1 h1 h2).trans h.2.2.2.2⟩
theorem bound_2(g cc:Nat)(s:ByteArray)(w:World): Calls prog 40 #[.slice (some ⟨g,0,none⟩) 2 cc,.string s] w fun e w'=>e=.returned (.int .i64 (s.size:Nat))∧w=w':=by
 go_enter func40,ntmps40
 go_wp2_with fail
 go_ret
 exact ⟨rfl,rfl⟩
theorem row_4(g cc:Nat)(w:World)(hF:Four w g): Calls prog 41 #[.slice (some ⟨g,0,none⟩) 4 cc] w fun e w'=>∃b,e=.returned (.pointer (some ⟨b,0,none⟩))∧Below w.heap.size w w'∧Rw w' b 3 4:=by
 go_enter func41,ntmps41
 have F0:=hF.below (qR.alloc qL (.cells #[.slice none 0 0,.int .i64 0] 154))
 have B0:=Bd.new w 0
 have hgp:g≠w.heap.size:=by have:=hF.1;omega
 have Z0:Below w.heap.size w (w.alloc (.cells #[.slice none 0 0,.int .i64 0] 154)):=qR.alloc qL _
 obtain ⟨fl,f0,f1,f2,f3⟩ :=id F0
 go_wp2_with (first|(refine wp_loop_unr 6 ?_;refine Unr.step ?_;intro U hU)|(refine Unr.step ?_;intro U hU))
 refine (bit_1 w.heap.size 0 0 0 _ B0 (by decide) (by decide)).mono ?_;rintro e w1 ⟨rfl,g1,hB,hz,hn,hO⟩
 have hg1:=hz rfl
 simp at hg1
 have ga0:w.heap.size≤g1:=oM
 have hga:g≠g1:=by have:=hF.1;omega
 have B1:Bd w1 w.heap.size g1 1 1:=hB
 have F1:=F0.oth hO hgp hga
 have Z1:=Z0.trans (hO.bel w.heap.size qL ga0 Z0.size)
 clear hB hz hn hO
 clear fl f0 f1 f2 f3
 obtain ⟨fl,f0,f1,f2,f3⟩ :=id F1
 go_wp2_with (first|(refine wp_loop_unr 6 ?_;refine Unr.step ?_;intro U hU)|(refine Unr.step ?_;intro U hU))
 refine (bit_1 w.heap.size _ 1 1 _ B1 (by decide) (by decide)).mono ?_;rintro e w2 ⟨rfl,g2,hB,hz,hn,hO⟩
 obtain rfl:=hn (by decide)
 have B2:Bd w2 w.heap.size g2 3 2:=hB
 have F2:=F1.oth hO hgp hga
 have Z2:=Z1.trans (hO.bel w.heap.size qL ga0 Z1.size)
 clear hB hz hn hO
 clear fl f0 f1 f2 f3
 obtain ⟨fl,f0,f1,f2,f3⟩ :=id F2
 go_wp2_with (first|(refine wp_loop_unr 6 ?_;refine Unr.step ?_;intro U hU)|(refine Unr.step ?_;intro U hU))
 refine (bit_0 w.heap.size _ 3 2 _ B2 (by decide) (by decide)).mono ?_;rintro e w3 ⟨rfl,g3,hB,hz,hn,hO⟩
 obtain rfl:=hn (by decide)
 have B3:Bd w3 w.heap.size g3 3 3:=hB
 have F3:=F2.oth hO hgp hga
 have Z3:=Z2.trans (hO.bel w.heap.size qL ga0 Z2.size)
 clear hB hz hn hO
 clear fl f0 f1 f2 f3
 obtain ⟨fl,f0,f1,f2,f3⟩ :=id F3
 go_wp2_with (first|(refine wp_loop_unr 6 ?_;refine Unr.step ?_;intro U hU)|(refine Unr.step ?_;intro U hU))
 refine (bit_0 w.heap.size _ 3 3 _ B3 (by decide) (by decide)).mono ?_;rintro e w4 ⟨rfl,g4,hB,hz,hn,hO⟩
 obtain rfl:=hn (by decide)
 have B4:Bd w4 w.heap.size g4 3 4:=hB
 have F4:=F3.oth hO hgp hga
 have Z4:=Z3.trans (hO.bel w.heap.size qL ga0 Z3.size)
 clear hB hz hn hO
 clear fl f0 f1 f2 f3
 obtain ⟨fl,f0,f1,f2,f3⟩ :=id F4
 go_wp2_with (first|(refine wp_loop_unr 6 ?_;refine Unr.step ?_;intro U hU)|(refine Unr.step ?_;intro U hU))
 refine (brow_any w.heap.size _ 3 4 _ B4 (by decide)).mono ?_;rintro e w5 ⟨b,rfl,hb,hb5,hR⟩
 clear fl f0 f1 f2 f3
 go_wp2_with (first|(refine wp_loop_unr 6 ?_;refine Unr.step ?_;intro U hU)|(refine Unr.step ?_;intro U hU))
 go_ret
 exact ⟨b,rfl,Z4.trans (hb5.mono Z4.size),hR⟩
theorem make_1(T:ByteArray)(n L:Nat)(c:Int)(hT:ScT T n L c)(hZ:Ms T 0 false [((0:Int),(91:Int)),((L:Int),(93:Int))])(w:World)(hTb:Tab w): Calls prog 24 #[.string T] w fun e w'=>∃p,e=.returned (.tuple #[.pointer (some ⟨p,0,none⟩),.int .i64 0])∧Below w.heap.size w w'∧Ix w' p T n:=by
 obtain ⟨hn,hL,h3,h1,-,-,-,-,-,-,-,-,-⟩ :=id hT
 have hs:T.size≤100000:=oM
 have HN:=hid hn
 have HL:=hid hL
 clear hn hL
 go_enter func24,ntmps24
 go_wp2_with fail
 refine (look_1 T n L c hT _).mono ?_;rintro e w1 ⟨rfl,Z1⟩
 go_wp2_with fail
 refine (places_any T hs L hZ _).mono ?_;rintro e w2 ⟨g,cc,rfl,hG,hb⟩
 have Z2:=Z1.trans (hb.mono Z1.size)
 clear hb
 go_wp2_with fail
 refine (bound_2 g cc T _).mono ?_;rintro e w3 ⟨rfl,rfl⟩
 have hM:=make_any g cc T.size (by rw [HN.out];exact h3) (by rw [HN.out];exact h1) w2 (by rw [show T.size-1=L by have:=HN.out;have:=HL.out;omega];exact hG)
 go_wp2_with fail
 refine hM.mono ?_;rintro e w3 ⟨sq,rfl,hb,hS⟩
 have Z3:=Z2.trans (hb.mono Z2.size)
 clear hb hM
 go_wp2_with fail
 refine (parens_any T hs L hZ _).mono ?_;rintro e w4 ⟨g2,c2,rfl,hF,hb⟩
 have S4:=hS.below hb
 have Z4:=Z3.trans (hb.mono Z3.size)
 clear hb
 go_wp2_with fail
 refine (row_4 g2 c2 _ hF).mono ?_;rintro e w5 ⟨b,rfl,hb,hR⟩
 have S5:=S4.below hb
 have Z5:=Z4.trans (hb.mono Z4.size)
 clear hb
 go_wp2_with fail
 refine (nnew_any b _ hR).mono ?_;rintro e w6 ⟨ns,rfl,hb,hNs⟩
 have S6:=S5.below hb
 have Z6:=Z5.trans (hb.mono Z5.size)
 clear hb
 go_wp2_with fail
 go_ret2
 have hA:=(Below.refl w6.heap.size w6).alloc qL (.cells #[.pointer (some ⟨sq,0,none⟩),.pointer (some ⟨b,0,none⟩),.pointer (some ⟨ns,0,none⟩),.string T] 115)
 refine ⟨_,rfl,Z6.trans (hA.mono Z6.size),sq,b,ns,by simp,by simp [go_sem],by simp [go_sem],by simp [go_sem],by simp [go_sem],?_,hNs.below hA,(hTb.below Z6).below hA⟩
 rw [←HN.out];exact S6.below hA
end
end Go.Proofs.YtjcioljdlfdnbaaGreatDoor
