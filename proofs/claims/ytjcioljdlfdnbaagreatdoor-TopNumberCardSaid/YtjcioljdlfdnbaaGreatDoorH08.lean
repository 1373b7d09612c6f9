/- Part 8: lemmas for TopNumber; no conditions. -/
import Derived.Test.YtjcioljdlfdnbaaGreatDoorH06
import Derived.Test.YtjcioljdlfdnbaaGreatDoorH07
set_option linter.unusedVariables false
set_option linter.unusedSimpArgs false
set_option maxRecDepth 100000
set_option maxHeartbeats 2000000
open Go.Proofs.Tryz
namespace Go.Proofs.YtjcioljdlfdnbaaGreatDoor
namespace Nn
open Go.RowKit
open Np
theorem sdigits(T:ByteArray)(k d:Nat)(sl:Value)(dd m:Int)(x:Nat)(hs:T.size≤100000)(h1:1≤d)(hd:Hid (dlen (T.data.toList.drop k)=d))(hk:k+d<T.size)(w:World)(h:Sc T k sl dd m x w): Calls prog 262 #[.pointer (some ⟨x,0,none⟩)] w fun e w'=>Sto w (.bool true) T (k+d) sl dd m x e w':=by
 have xlt:=h.lt
 have x0:=h.c0
 have x1:=h.c1
 have x2:=h.c2
 have x3:=h.c3
 have x4:=h.c4
 have hk0:k<T.size:=oM
 have hN:=next_v T k sl dd m _ x hs hk0 rfl
 go_enter func262,ntmps262
 go_wp2_with fail
 refine (hN _ h).mono ?_;rintro e w1 ⟨rfl,m1,hw⟩
 have S1:Sc T k sl dd m x w1:=by rw [hw];exact Sc.drewN h _
 have O1:Oth w w1 x x:=by rw [hw];exact Oth.trans (Oth.refl w x x) (Oth.drewN _ _ _ _)
 clear hw
 go_wp2_with fail
 go_loopg [4] d (fun q v wr=>∃j:Nat,∃hj:k+j<T.size,v=.int .u8 ((T[k+j]'hj).toNat:Nat)∧j≤d∧q=d-j∧Sc T (k+j) sl dd m x wr∧Oth w wr x x)
 case atStart=>exact ⟨0,hk0,rfl,Nat.zero_le _,rfl,S1,O1⟩
 case round=>
  clear x0 x1 x2 x3 x4 xlt h S1 O1
  obtain ⟨j,hj,rfl,hjd,rfl,hS,hO⟩ :=hrel
  have xlt:=hS.lt
  have x0:=hS.c0
  have x1:=hS.c1
  have z1:=hS.z1
  rw [show ((k+j:Nat):Int)=(k:Int)+(j:Int) from Int.natCast_add k j] at x1
  have hw:IntKind.i64.wrap ((k:Int)+(j:Int)+1)=(k:Int)+(j:Int)+1:=IntWalk.i64_in _ oM
  by_cases hlt:j<d
  ·obtain ⟨hk2,hD⟩ :=dlen_in T k j (by rw [hd.out];exact hlt)
   have d1:decide (48≤((T[k+j]'hk2).toNat:Int))=true:=by rw [decide_eq_true_eq];have:=hD.1;omega
   have d2:decide (((T[k+j]'hk2).toNat:Int)≤57)=true:=by rw [decide_eq_true_eq];have:=hD.2;omega
   have hj2:k+(j+1)<T.size:=oM
   have hN2:=next_v T (k+(j+1)) sl dd m _ x hs hj2 rfl
   go_wp2_with fail
   generalize hW:World.setCell _ _ _=W
   have S5:Sc T (k+(j+1)) sl dd m x W:=by
    rw [←hW];have:=Sc.setK hS (k+(j+1))
    rwa [show (((k+(j+1):Nat)):Int)=(k:Int)+(j:Int)+1 by omega] at this
   have O5:Oth w W x x:=by rw [←hW];exact Oth.trans hO (Oth.setP _ _ _ _ _)
   clear hW x0 x1 z1 xlt
   refine (hN2 _ S5).mono ?_;rintro e w6 ⟨rfl,m6,hw6⟩
   have S6:Sc T (k+(j+1)) sl dd m x w6:=by rw [hw6];exact Sc.drewN S5 _
   have O6:Oth w w6 x x:=by rw [hw6];exact Oth.trans O5 (Oth.drewN _ _ _ _)
   clear hw6
   go_wp2_with fail
   go_roundg (d-(j+1))
   case measure=>go_light;omega
   case rel=>go_light;exact ⟨j+1,hj2,rfl,by omega,rfl,S6,O6⟩
  ·obtain rfl:j=d:=oM
   have hO2:=dlen_out T k (by rw [hd.out];exact hk)
   simp only [hd.out] at hO2
   have d3:decide ((k:Int)<(k:Int)+(j:Int))=true:=by rw [decide_eq_true_eq];omega
   by_cases h48:48≤(T[k+j]'hj).toNat
   ·have d1:decide (48≤((T[k+j]'hj).toNat:Int))=true:=by rw [decide_eq_true_eq];omega
    have d2:decide (((T[k+j]'hj).toNat:Int)≤57)=false:=by rw [decide_eq_false_iff_not];intro h9;exact hO2 ⟨h48,by omega⟩
    go_wp2_with fail
    go_ret
    exact ⟨rfl,hS,hO⟩
   ·have d1:decide (48≤((T[k+j]'hj).toNat:Int))=false:=by rw [decide_eq_false_iff_not];omega
    go_wp2_with fail
    go_ret
    exact ⟨rfl,hS,hO⟩
end Nn
section
open Go.RowKit
theorem info325: (prog.info? 262).map (fun i=>(i.zero,i.size,i.bytes))=some (some (.agg #[.int .i64 0,.string ⟨#[]⟩,.int .i64 0,.int .i64 0,.bool false]),5,48):=by kernel_rfl
theorem ex0: ByteArray.extract ⟨#[36,91,48,93]⟩ 0 4=⟨#[36,91,48,93]⟩ :=by decide
theorem ex1: ByteArray.extract ⟨#[36,91,48,93]⟩ 1 4=⟨#[91,48,93]⟩ :=by decide
theorem ex2: ByteArray.extract ⟨#[36,91,48,93]⟩ 2 4=⟨#[48,93]⟩ :=by decide
theorem ex3: ByteArray.extract ⟨#[36,91,48,93]⟩ 3 4=⟨#[93]⟩ :=by decide
abbrev toks:List Value:=[.int .i64 1,.string ⟨#[36]⟩,.int .i64 0,.int .i64 0,.bool false,.int .i64 1,.string ⟨#[91]⟩,.int .i64 0,.int .i64 1,.bool false,.int .i64 3,.string ⟨#[]⟩,.int .i64 0,.int .i64 2,.bool false,.int .i64 1,.string ⟨#[93]⟩,.int .i64 0,.int .i64 3,.bool false]
structure Tk (w:World) (g:Nat):Prop where
 lt:g<w.heap.size
 c0:w.cell? ⟨g,0,none⟩=some (.int .i64 1)
 c1:w.cell? ⟨g,1,none⟩=some (.string ⟨#[36]⟩)
 c2:w.cell? ⟨g,2,none⟩=some (.int .i64 0)
 c3:w.cell? ⟨g,3,none⟩=some (.int .i64 0)
 c4:w.cell? ⟨g,4,none⟩=some (.bool false)
 c5:w.cell? ⟨g,5,none⟩=some (.int .i64 1)
 c6:w.cell? ⟨g,6,none⟩=some (.string ⟨#[91]⟩)
 c7:w.cell? ⟨g,7,none⟩=some (.int .i64 0)
 c8:w.cell? ⟨g,8,none⟩=some (.int .i64 1)
 c9:w.cell? ⟨g,9,none⟩=some (.bool false)
 c10:w.cell? ⟨g,10,none⟩=some (.int .i64 3)
 c11:w.cell? ⟨g,11,none⟩=some (.string ⟨#[]⟩)
 c12:w.cell? ⟨g,12,none⟩=some (.int .i64 0)
 c13:w.cell? ⟨g,13,none⟩=some (.int .i64 2)
 c14:w.cell? ⟨g,14,none⟩=some (.bool false)
 c15:w.cell? ⟨g,15,none⟩=some (.int .i64 1)
 c16:w.cell? ⟨g,16,none⟩=some (.string ⟨#[93]⟩)
 c17:w.cell? ⟨g,17,none⟩=some (.int .i64 0)
 c18:w.cell? ⟨g,18,none⟩=some (.int .i64 3)
 c19:w.cell? ⟨g,19,none⟩=some (.bool false)
theorem Tk.of{w0 w:World}{g cap:Nat}(h:Acc w0 w 262 5 (.slice (some ⟨g,0,none⟩) 4 cap) 4 toks): Tk w g:=by
 obtain ⟨h1,h2,h3⟩ :=h.row
 exact ⟨h2,h3 0 _ rfl,h3 1 _ rfl,h3 2 _ rfl,h3 3 _ rfl,h3 4 _ rfl,h3 5 _ rfl,h3 6 _ rfl,h3 7 _ rfl,h3 8 _ rfl,h3 9 _ rfl,h3 10 _ rfl,h3 11 _ rfl,h3 12 _ rfl,h3 13 _ rfl,h3 14 _ rfl,h3 15 _ rfl,h3 16 _ rfl,h3 17 _ rfl,h3 18 _ rfl,h3 19 _ rfl⟩
theorem Tk.set{w:World}{g:Nat}(h:Tk w g)(a:Addr)(v:Value)(hne:a.block≠g): Tk (w.setCell a v) g:=
 ⟨by simpa [World.setCell] using h.lt,(qO (by intro e;exact hne (by rw [e]))).trans h.c0,(qO (by intro e;exact hne (by rw [e]))).trans h.c1,(qO (by intro e;exact hne (by rw [e]))).trans h.c2,(qO (by intro e;exact hne (by rw [e]))).trans h.c3,(qO (by intro e;exact hne (by rw [e]))).trans h.c4,(qO (by intro e;exact hne (by rw [e]))).trans h.c5,(qO (by intro e;exact hne (by rw [e]))).trans h.c6,(qO (by intro e;exact hne (by rw [e]))).trans h.c7,(qO (by intro e;exact hne (by rw [e]))).trans h.c8,(qO (by intro e;exact hne (by rw [e]))).trans h.c9,(qO (by intro e;exact hne (by rw [e]))).trans h.c10,(qO (by intro e;exact hne (by rw [e]))).trans h.c11,(qO (by intro e;exact hne (by rw [e]))).trans h.c12,(qO (by intro e;exact hne (by rw [e]))).trans h.c13,(qO (by intro e;exact hne (by rw [e]))).trans h.c14,(qO (by intro e;exact hne (by rw [e]))).trans h.c15,(qO (by intro e;exact hne (by rw [e]))).trans h.c16,(qO (by intro e;exact hne (by rw [e]))).trans h.c17,(qO (by intro e;exact hne (by rw [e]))).trans h.c18,(qO (by intro e;exact hne (by rw [e]))).trans h.c19⟩
def LexP (w:World) (e:Ending) (w':World):Prop:=∃g cap,e=.returned (.tuple #[.slice (some ⟨g,0,none⟩) 4 cap,.agg #[.int .i64 0,.int .i64 0]])∧4≤cap∧w.heap.size≤g∧Tk w' g∧Below w.heap.size w w'
theorem Tk.below{w w':World}{g:Nat}(h:Tk w g)(hb:Below w.heap.size w w'): Tk w' g:=
 ⟨Nat.lt_of_lt_of_le h.lt hb.size,(hb.cell (p:=⟨g,0,none⟩) h.lt).trans h.c0,(hb.cell (p:=⟨g,1,none⟩) h.lt).trans h.c1,(hb.cell (p:=⟨g,2,none⟩) h.lt).trans h.c2,(hb.cell (p:=⟨g,3,none⟩) h.lt).trans h.c3,(hb.cell (p:=⟨g,4,none⟩) h.lt).trans h.c4,(hb.cell (p:=⟨g,5,none⟩) h.lt).trans h.c5,(hb.cell (p:=⟨g,6,none⟩) h.lt).trans h.c6,(hb.cell (p:=⟨g,7,none⟩) h.lt).trans h.c7,(hb.cell (p:=⟨g,8,none⟩) h.lt).trans h.c8,(hb.cell (p:=⟨g,9,none⟩) h.lt).trans h.c9,(hb.cell (p:=⟨g,10,none⟩) h.lt).trans h.c10,(hb.cell (p:=⟨g,11,none⟩) h.lt).trans h.c11,(hb.cell (p:=⟨g,12,none⟩) h.lt).trans h.c12,(hb.cell (p:=⟨g,13,none⟩) h.lt).trans h.c13,(hb.cell (p:=⟨g,14,none⟩) h.lt).trans h.c14,(hb.cell (p:=⟨g,15,none⟩) h.lt).trans h.c15,(hb.cell (p:=⟨g,16,none⟩) h.lt).trans h.c16,(hb.cell (p:=⟨g,17,none⟩) h.lt).trans h.c17,(hb.cell (p:=⟨g,18,none⟩) h.lt).trans h.c18,(hb.cell (p:=⟨g,19,none⟩) h.lt).trans h.c19⟩
theorem lex_any(w:World): Calls prog 79 #[.string ⟨#[36,91,48,93]⟩] w fun e w'=>LexP w e w':=by
 obtain ⟨i0,hi0,hz0,hs0,hb0⟩ :=info_parts info325
 have HA:=hid (Acc.nil (Below.refl _ (w.alloc (Obj.cells #[.int .i64 0,.int .i64 0] 47))) 262 5)
 have q0:=ex0
 have q1:=ex1
 have q2:=ex2
 have q3:=ex3
 go_enter func79,ntmps79
 go_wp2_with (first|(go_at_call 90;refine (trimLeft_no _ _ ⟨by decide,by decide⟩).mono ?_;rintro e w1 ⟨rfl,hb⟩;have HA:=acc_step HA.out tq6 hb;clear hb;have e0:=HA.out.bel.cell (p:=⟨w.heap.size,0,none⟩) sM;simp [go_sem] at e0;have f0:=HA.out.bel.frozen (p:=⟨w.heap.size,0,none⟩) sM;simp [go_sem] at f0;have e1:=HA.out.bel.cell (p:=⟨w.heap.size,1,none⟩) sM;simp [go_sem] at e1;have f1:=HA.out.bel.frozen (p:=⟨w.heap.size,1,none⟩) sM;simp [go_sem] at f1;have sz:=HA.out.bel.size;simp at sz;have l0:w.heap.size<_:=sz)|(at_builtin;refine wpList_push rfl _ _ 168 rfl 262 i0 _ 5 48 underlying168 hi0 hz0 hs0 hb0 rfl oM (Acc.below HA.out tq6) rfl rfl sM rfl rfl oM oM ?_;intro g cap w1 hA;have HA:=hid hA;clear hA;have e0:=HA.out.bel.cell (p:=⟨w.heap.size,0,none⟩) sM;simp [go_sem] at e0;have f0:=HA.out.bel.frozen (p:=⟨w.heap.size,0,none⟩) sM;simp [go_sem] at f0;have e1:=HA.out.bel.cell (p:=⟨w.heap.size,1,none⟩) sM;simp [go_sem] at e1;have f1:=HA.out.bel.frozen (p:=⟨w.heap.size,1,none⟩) sM;simp [go_sem] at f1;have sz:=HA.out.bel.size;simp at sz;have l0:w.heap.size<_:=sz)|(refine wp_loop_unr 6 ?_;refine Unr.step ?_;intro U hU)|(refine Unr.step ?_;intro U hU))
 refine (one_d _).mono ?_;rintro e w1 ⟨rfl,hb⟩;have HA:=acc_step HA.out tq6 hb;clear hb;have e0:=HA.out.bel.cell (p:=⟨w.heap.size,0,none⟩) sM;simp [go_sem] at e0;have f0:=HA.out.bel.frozen (p:=⟨w.heap.size,0,none⟩) sM;simp [go_sem] at f0;have e1:=HA.out.bel.cell (p:=⟨w.heap.size,1,none⟩) sM;simp [go_sem] at e1;have f1:=HA.out.bel.frozen (p:=⟨w.heap.size,1,none⟩) sM;simp [go_sem] at f1;have sz:=HA.out.bel.size;simp at sz;have l0:w.heap.size<_:=sz
 go_wp2_with (first|(go_at_call 90;refine (trimLeft_no _ _ ⟨by decide,by decide⟩).mono ?_;rintro e w1 ⟨rfl,hb⟩;have HA:=acc_step HA.out tq6 hb;clear hb;have e0:=HA.out.bel.cell (p:=⟨w.heap.size,0,none⟩) sM;simp [go_sem] at e0;have f0:=HA.out.bel.frozen (p:=⟨w.heap.size,0,none⟩) sM;simp [go_sem] at f0;have e1:=HA.out.bel.cell (p:=⟨w.heap.size,1,none⟩) sM;simp [go_sem] at e1;have f1:=HA.out.bel.frozen (p:=⟨w.heap.size,1,none⟩) sM;simp [go_sem] at f1;have sz:=HA.out.bel.size;simp at sz;have l0:w.heap.size<_:=sz)|(at_builtin;refine wpList_push rfl _ _ 168 rfl 262 i0 _ 5 48 underlying168 hi0 hz0 hs0 hb0 rfl oM (Acc.below HA.out tq6) rfl rfl sM rfl rfl oM oM ?_;intro g cap w1 hA;have HA:=hid hA;clear hA;have e0:=HA.out.bel.cell (p:=⟨w.heap.size,0,none⟩) sM;simp [go_sem] at e0;have f0:=HA.out.bel.frozen (p:=⟨w.heap.size,0,none⟩) sM;simp [go_sem] at f0;have e1:=HA.out.bel.cell (p:=⟨w.heap.size,1,none⟩) sM;simp [go_sem] at e1;have f1:=HA.out.bel.frozen (p:=⟨w.heap.size,1,none⟩) sM;simp [go_sem] at f1;have sz:=HA.out.bel.size;simp at sz;have l0:w.heap.size<_:=sz)|(refine wp_loop_unr 6 ?_;refine Unr.step ?_;intro U hU)|(refine Unr.step ?_;intro U hU))
 refine (one_l _).mono ?_;rintro e w1 ⟨rfl,hb⟩;have HA:=acc_step HA.out tq6 hb;clear hb;have e0:=HA.out.bel.cell (p:=⟨w.heap.size,0,none⟩) sM;simp [go_sem] at e0;have f0:=HA.out.bel.frozen (p:=⟨w.heap.size,0,none⟩) sM;simp [go_sem] at f0;have e1:=HA.out.bel.cell (p:=⟨w.heap.size,1,none⟩) sM;simp [go_sem] at e1;have f1:=HA.out.bel.frozen (p:=⟨w.heap.size,1,none⟩) sM;simp [go_sem] at f1;have sz:=HA.out.bel.size;simp at sz;have l0:w.heap.size<_:=sz
 go_wp2_with (first|(go_at_call 90;refine (trimLeft_no _ _ ⟨by decide,by decide⟩).mono ?_;rintro e w1 ⟨rfl,hb⟩;have HA:=acc_step HA.out tq6 hb;clear hb;have e0:=HA.out.bel.cell (p:=⟨w.heap.size,0,none⟩) sM;simp [go_sem] at e0;have f0:=HA.out.bel.frozen (p:=⟨w.heap.size,0,none⟩) sM;simp [go_sem] at f0;have e1:=HA.out.bel.cell (p:=⟨w.heap.size,1,none⟩) sM;simp [go_sem] at e1;have f1:=HA.out.bel.frozen (p:=⟨w.heap.size,1,none⟩) sM;simp [go_sem] at f1;have sz:=HA.out.bel.size;simp at sz;have l0:w.heap.size<_:=sz)|(at_builtin;refine wpList_push rfl _ _ 168 rfl 262 i0 _ 5 48 underlying168 hi0 hz0 hs0 hb0 rfl oM (Acc.below HA.out tq6) rfl rfl sM rfl rfl oM oM ?_;intro g cap w1 hA;have HA:=hid hA;clear hA;have e0:=HA.out.bel.cell (p:=⟨w.heap.size,0,none⟩) sM;simp [go_sem] at e0;have f0:=HA.out.bel.frozen (p:=⟨w.heap.size,0,none⟩) sM;simp [go_sem] at f0;have e1:=HA.out.bel.cell (p:=⟨w.heap.size,1,none⟩) sM;simp [go_sem] at e1;have f1:=HA.out.bel.frozen (p:=⟨w.heap.size,1,none⟩) sM;simp [go_sem] at f1;have sz:=HA.out.bel.size;simp at sz;have l0:w.heap.size<_:=sz)|(refine wp_loop_unr 6 ?_;refine Unr.step ?_;intro U hU)|(refine Unr.step ?_;intro U hU))
 refine (one_0 _).mono ?_;rintro e w1 ⟨rfl,hb⟩;have HA:=acc_step HA.out tq6 hb;clear hb;have e0:=HA.out.bel.cell (p:=⟨w.heap.size,0,none⟩) sM;simp [go_sem] at e0;have f0:=HA.out.bel.frozen (p:=⟨w.heap.size,0,none⟩) sM;simp [go_sem] at f0;have e1:=HA.out.bel.cell (p:=⟨w.heap.size,1,none⟩) sM;simp [go_sem] at e1;have f1:=HA.out.bel.frozen (p:=⟨w.heap.size,1,none⟩) sM;simp [go_sem] at f1;have sz:=HA.out.bel.size;simp at sz;have l0:w.heap.size<_:=sz
 go_wp2_with (first|(go_at_call 90;refine (trimLeft_no _ _ ⟨by decide,by decide⟩).mono ?_;rintro e w1 ⟨rfl,hb⟩;have HA:=acc_step HA.out tq6 hb;clear hb;have e0:=HA.out.bel.cell (p:=⟨w.heap.size,0,none⟩) sM;simp [go_sem] at e0;have f0:=HA.out.bel.frozen (p:=⟨w.heap.size,0,none⟩) sM;simp [go_sem] at f0;have e1:=HA.out.bel.cell (p:=⟨w.heap.size,1,none⟩) sM;simp [go_sem] at e1;have f1:=HA.out.bel.frozen (p:=⟨w.heap.size,1,none⟩) sM;simp [go_sem] at f1;have sz:=HA.out.bel.size;simp at sz;have l0:w.heap.size<_:=sz)|(at_builtin;refine wpList_push rfl _ _ 168 rfl 262 i0 _ 5 48 underlying168 hi0 hz0 hs0 hb0 rfl oM (Acc.below HA.out tq6) rfl rfl sM rfl rfl oM oM ?_;intro g cap w1 hA;have HA:=hid hA;clear hA;have e0:=HA.out.bel.cell (p:=⟨w.heap.size,0,none⟩) sM;simp [go_sem] at e0;have f0:=HA.out.bel.frozen (p:=⟨w.heap.size,0,none⟩) sM;simp [go_sem] at f0;have e1:=HA.out.bel.cell (p:=⟨w.heap.size,1,none⟩) sM;simp [go_sem] at e1;have f1:=HA.out.bel.frozen (p:=⟨w.heap.size,1,none⟩) sM;simp [go_sem] at f1;have sz:=HA.out.bel.size;simp at sz;have l0:w.heap.size<_:=sz)|(refine wp_loop_unr 6 ?_;refine Unr.step ?_;intro U hU)|(refine Unr.step ?_;intro U hU))
 refine (one_r _).mono ?_;rintro e w1 ⟨rfl,hb⟩;have HA:=acc_step HA.out tq6 hb;clear hb;have e0:=HA.out.bel.cell (p:=⟨w.heap.size,0,none⟩) sM;simp [go_sem] at e0;have f0:=HA.out.bel.frozen (p:=⟨w.heap.size,0,none⟩) sM;simp [go_sem] at f0;have e1:=HA.out.bel.cell (p:=⟨w.heap.size,1,none⟩) sM;simp [go_sem] at e1;have f1:=HA.out.bel.frozen (p:=⟨w.heap.size,1,none⟩) sM;simp [go_sem] at f1;have sz:=HA.out.bel.size;simp at sz;have l0:w.heap.size<_:=sz
 go_wp2_with (first|(go_at_call 90;refine (trimLeft_no _ _ ⟨by decide,by decide⟩).mono ?_;rintro e w1 ⟨rfl,hb⟩;have HA:=acc_step HA.out tq6 hb;clear hb;have e0:=HA.out.bel.cell (p:=⟨w.heap.size,0,none⟩) sM;simp [go_sem] at e0;have f0:=HA.out.bel.frozen (p:=⟨w.heap.size,0,none⟩) sM;simp [go_sem] at f0;have e1:=HA.out.bel.cell (p:=⟨w.heap.size,1,none⟩) sM;simp [go_sem] at e1;have f1:=HA.out.bel.frozen (p:=⟨w.heap.size,1,none⟩) sM;simp [go_sem] at f1;have sz:=HA.out.bel.size;simp at sz;have l0:w.heap.size<_:=sz)|(at_builtin;refine wpList_push rfl _ _ 168 rfl 262 i0 _ 5 48 underlying168 hi0 hz0 hs0 hb0 rfl oM (Acc.below HA.out tq6) rfl rfl sM rfl rfl oM oM ?_;intro g cap w1 hA;have HA:=hid hA;clear hA;have e0:=HA.out.bel.cell (p:=⟨w.heap.size,0,none⟩) sM;simp [go_sem] at e0;have f0:=HA.out.bel.frozen (p:=⟨w.heap.size,0,none⟩) sM;simp [go_sem] at f0;have e1:=HA.out.bel.cell (p:=⟨w.heap.size,1,none⟩) sM;simp [go_sem] at e1;have f1:=HA.out.bel.frozen (p:=⟨w.heap.size,1,none⟩) sM;simp [go_sem] at f1;have sz:=HA.out.bel.size;simp at sz;have l0:w.heap.size<_:=sz)|(refine wp_loop_unr 6 ?_;refine Unr.step ?_;intro U hU)|(refine Unr.step ?_;intro U hU))
 have hk:=Tk.of HA.out
 have hcap:=HA.out.cap
 have hr:=HA.out.row.1
 simp at hr
 try simp only [Exit.inBlock,Exit.then]
 refine bodyPost_ret (v:=.tuple #[.slice (some ⟨g,0,none⟩) 4 cap,.agg #[.int .i64 0,.int .i64 0]]) (by simp [results,results79,go_sem, *]) rfl ⟨g,cap,rfl,hcap,?_,?_,?_⟩
 ·omega
 ·exact (hk.set _ _ (by simp;omega)).set _ _ (by simp;omega)
 ·exact ((((Below.refl _ w).alloc qL _).trans (HA.out.bel.mono sM)).setCell sM _).setCell sM _
structure Rq (w:World) (r g j m cap:Nat) (K:Int) (S:ByteArray) (N A:Int):Prop where
 lt:r<w.heap.size
 glt:g<w.heap.size
 ne:r≠g
 hcap:m+1≤cap
 c0:w.cell? ⟨r,0,none⟩=some (.slice (some ⟨g,j,none⟩) (m+1) cap)
 c1:w.cell? ⟨r,1,none⟩=some (.int .i64 4)
 c2:w.cell? ⟨r,2,none⟩=some (.int .i64 0)
 c3:w.cell? ⟨r,3,none⟩=some (.int .i64 0)
 c4:w.cell? ⟨r,4,none⟩=some (.int .i64 0)
 f0:w.frozen? ⟨r,0,none⟩=false
 h0:w.cell? ⟨g,j,none⟩=some (.int .i64 K)
 h1:w.cell? ⟨g,j+1,none⟩=some (.string S)
 h2:w.cell? ⟨g,j+2,none⟩=some (.int .i64 N)
 h3:w.cell? ⟨g,j+3,none⟩=some (.int .i64 A)
 h4:w.cell? ⟨g,j+4,none⟩=some (.bool false)
theorem Rq.below{w w':World}{r g j m cap:Nat}{K:Int}{S:ByteArray}{N A:Int}(h:Rq w r g j m cap K S N A)(hb:Below w.heap.size w w'): Rq w' r g j m cap K S N A:=
 ⟨Nat.lt_of_lt_of_le h.lt hb.size,Nat.lt_of_lt_of_le h.glt hb.size,h.ne,h.hcap,(hb.cell (p:=⟨r,0,none⟩) h.lt).trans h.c0,(hb.cell (p:=⟨r,1,none⟩) h.lt).trans h.c1,(hb.cell (p:=⟨r,2,none⟩) h.lt).trans h.c2,(hb.cell (p:=⟨r,3,none⟩) h.lt).trans h.c3,(hb.cell (p:=⟨r,4,none⟩) h.lt).trans h.c4,(hb.frozen (p:=⟨r,0,none⟩) h.lt).trans h.f0,(hb.cell (p:=⟨g,j,none⟩) h.glt).trans h.h0,(hb.cell (p:=⟨g,j+1,none⟩) h.glt).trans h.h1,(hb.cell (p:=⟨g,j+2,none⟩) h.glt).trans h.h2,(hb.cell (p:=⟨g,j+3,none⟩) h.glt).trans h.h3,(hb.cell (p:=⟨g,j+4,none⟩) h.glt).trans h.h4⟩
structure RF (r:Nat) (w w':World):Prop where
 gr:w.grownBy w' (some r)
 cl:∀c,0<c→w'.cell? ⟨r,c,none⟩=w.cell? ⟨r,c,none⟩
 fz:∀c,w'.frozen? ⟨r,c,none⟩=w.frozen? ⟨r,c,none⟩
theorem RF.refl(r:Nat)(w:World): RF r w w:=⟨⟨rfl,rfl,rfl,qL,fun _ _ _=>rfl⟩,fun _ _=>rfl,fun _=>rfl⟩
theorem RF.trans{r:Nat}{w w' w'':World}(h:RF r w w')(k:RF r w' w''): RF r w w'':=
 ⟨⟨k.gr.os.trans h.gr.os,k.gr.tape.trans h.gr.tape,k.gr.output.trans h.gr.output,Nat.le_trans h.gr.size k.gr.size,fun i hi hne=>(k.gr.block i (Nat.lt_of_lt_of_le hi h.gr.size) hne).trans (h.gr.block i hi hne)⟩,fun c hc=>(k.cl c hc).trans (h.cl c hc),fun c=>(k.fz c).trans (h.fz c)⟩
theorem RF.below{r:Nat}{w w':World}(hr:r<w.heap.size)(h:Below w.heap.size w w'): RF r w w':=
 ⟨⟨h.os,h.tape,h.output,h.size,fun i hi _=>h.block i hi⟩,fun c _=>h.cell (p:=⟨r,c,none⟩) hr,fun c=>h.frozen (p:=⟨r,c,none⟩) hr⟩
theorem RF.alloc{r:Nat}{w w':World}(h:RF r w w')(hr:r<w.heap.size)(o:Obj): RF r w (w'.alloc o):=
 h.trans (RF.below (Nat.lt_of_lt_of_le hr h.gr.size) (qR.alloc qL _))
theorem RF.drew{r:Nat}{w w':World}(h:RF r w w')(hr:r<w.heap.size): RF r w w'.drew:=h.trans (RF.below (Nat.lt_of_lt_of_le hr h.gr.size) (qR.drew))
theorem RF.drewN{r:Nat}{w w':World}(h:RF r w w')(hr:r<w.heap.size)(m:Nat): RF r w (w'.drewN m):=h.trans (RF.below (Nat.lt_of_lt_of_le hr h.gr.size) (below_drewN' qR m))
theorem RF.set{r:Nat}{w w':World}(h:RF r w w')(v:Value): RF r w (w'.setCell ⟨r,0,none⟩ v):=
 h.trans ⟨⟨rfl,rfl,rfl,by simp [World.setCell],fun i hi hne=>Below.heap_setCell _ _ _ _ (by simp;exact fun e=>hne (by rw [e]))⟩,fun c hc=>qO (by intro e;injection e with _ e;omega),fun c=>qF⟩
theorem RF.new{r:Nat}{w w':World}(h:RF r w w')(hr:r<w.heap.size){a:Addr}(ha:w.heap.size≤a.block)(v:Value): RF r w (w'.setCell a v):=
 ⟨⟨h.gr.os,h.gr.tape,h.gr.output,by simpa [World.setCell] using h.gr.size,fun i hi hne=>(Below.heap_setCell _ _ _ _ oM).trans (h.gr.block i hi hne)⟩,fun c hc=>(qO (by intro e;rw [e] at ha;simp at ha;omega)).trans (h.cl c hc),fun c=>qF.trans (h.fz c)⟩
theorem RF.far{r:Nat}{w w':World}(h:RF r w w'){b c:Nat}(hb:b<w.heap.size)(hne:r≠b): w'.cell? ⟨b,c,none⟩=w.cell? ⟨b,c,none⟩ :=World.cell?_of_block (h.gr.block b hb (by simpa using fun e=>hne e.symm))
theorem RF.farz{r:Nat}{w w':World}(h:RF r w w'){b c:Nat}(hb:b<w.heap.size)(hne:r≠b): w'.frozen? ⟨b,c,none⟩=w.frozen? ⟨b,c,none⟩ :=World.frozen?_of_block (h.gr.block b hb (by simpa using fun e=>hne e.symm))
theorem over_q(r g j m cap:Nat)(K:Int)(S:ByteArray)(N A:Int)(w:World)(h:Rq w r g j m cap K S N A): Calls prog 83 #[.pointer (some ⟨r,0,none⟩)] w fun e w'=>e=.returned (.bool false)∧w=w':=by
 obtain ⟨lt,glt,ne,hcap,c0,c1,c2,c3,c4,f0,h0,h1,h2,h3,h4⟩ :=id h
 have:¬((m:Int)+1=0):=oM
 have:(0:Int)<(m:Int)+1:=oM
 have:(0:Int)≤(m:Int)+1:=oM
 go_enter func83,ntmps83
 go_wp2_with fail
 go_ret
 exact ⟨rfl,rfl⟩
theorem kind_q(r g j m cap:Nat)(K:Int)(S:ByteArray)(N A:Int)(w:World)(h:Rq w r g j m cap K S N A): Calls prog 150 #[.pointer (some ⟨r,0,none⟩)] w fun e w'=>e=.returned (.int .i64 K)∧w=w':=by
 obtain ⟨lt,glt,ne,hcap,c0,c1,c2,c3,c4,f0,h0,h1,h2,h3,h4⟩ :=id h
 have:¬((m:Int)+1=0):=oM
 have:(0:Int)<(m:Int)+1:=oM
 have:(0:Int)≤(m:Int)+1:=oM
 go_enter func150,ntmps150
 go_wp2_with (first|(go_at_call 83;refine (over_q r g j m cap K S N A _ h).mono ?_;rintro e w9 ⟨rfl,rfl⟩))
 go_wp2_with fail
 go_ret
 exact ⟨rfl,rfl⟩
theorem is_no(r g j m cap:Nat)(K:Int)(S:ByteArray)(N A:Int)(s:ByteArray)(hK:¬K=1)(w:World)(h:Rq w r g j m cap K S N A): Calls prog 80 #[.pointer (some ⟨r,0,none⟩),.string s] w fun e w'=>e=.returned (.bool false)∧w=w':=by
 obtain ⟨lt,glt,ne,hcap,c0,c1,c2,c3,c4,f0,h0,h1,h2,h3,h4⟩ :=id h
 have:¬((m:Int)+1=0):=oM
 have:(0:Int)<(m:Int)+1:=oM
 have:(0:Int)≤(m:Int)+1:=oM
 have:(K==1)=false:=by rw [beq_eq_false_iff_ne];exact hK
 have:decide (K=1)=false:=by rw [decide_eq_false_iff_not];exact hK
 go_enter func80,ntmps80
 go_wp2_with (first|(go_at_call 150;refine (kind_q r g j m cap K S N A _ h).mono ?_;rintro e w9 ⟨rfl,rfl⟩))
 go_wp2_with fail
 go_ret
 exact ⟨rfl,rfl⟩
theorem is_s(r g j m cap:Nat)(S:ByteArray)(N A:Int)(s:ByteArray)(b:Bool)(hb:(S.toList==s.toList)=b)(w:World)(h:Rq w r g j m cap 1 S N A): Calls prog 80 #[.pointer (some ⟨r,0,none⟩),.string s] w fun e w'=>e=.returned (.bool b)∧w=w':=by
 obtain ⟨lt,glt,ne,hcap,c0,c1,c2,c3,c4,f0,h0,h1,h2,h3,h4⟩ :=id h
 have:¬((m:Int)+1=0):=oM
 have:(0:Int)<(m:Int)+1:=oM
 have:(0:Int)≤(m:Int)+1:=oM
 go_enter func80,ntmps80
 go_wp2_with (first|(go_at_call 150;refine (kind_q r g j m cap 1 S N A _ h).mono ?_;rintro e w9 ⟨rfl,rfl⟩))
 go_wp2_with fail
 go_ret
 exact ⟨by simp [hb],rfl⟩
def NextP (w:World) (r g j m cap:Nat) (K:Int) (S:ByteArray) (N A:Int) (e:Ending) (w':World):Prop:=e=.returned (.agg #[.int .i64 K,.string S,.int .i64 N,.int .i64 A,.bool false])∧RF r w w'∧(0<m→w'.cell? ⟨r,0,none⟩=some (.slice (some ⟨g,j+5,none⟩) m (cap-1)))∧(m=0→∃o c,w'.cell? ⟨r,0,none⟩=some (.slice (some ⟨g,o,none⟩) 0 c))
theorem next_c(r g j m c:Nat)(K:Int)(S:ByteArray)(N A:Int)(w:World)(h:Rq w r g j m (c+2) K S N A): Calls prog 153 #[.pointer (some ⟨r,0,none⟩)] w fun e w'=>NextP w r g j m (c+2) K S N A e w':=by
 obtain ⟨lt,glt,ne,hcap,c0,c1,c2,c3,c4,f0,h0,h1,h2,h3,h4⟩ :=id h
 have:¬((m:Int)+1=0):=oM
 have:(0:Int)<(m:Int)+1:=oM
 have:(0:Int)≤(m:Int)+1:=oM
 have glt:=glt
 have rlt:=lt
 have:¬g=r:=fun e=>ne e.symm
 have:¬r=g:=ne
 have:g<w.heap.size+1:=oM
 have:g<w.heap.size+1+1:=oM
 have:g<w.heap.size+1+1+1:=oM
 have:g<w.heap.size+1+1+1+1:=oM
 have:r<w.heap.size+1:=oM
 have:r<w.heap.size+1+1:=oM
 have:r<w.heap.size+1+1+1:=oM
 have:r<w.heap.size+1+1+1+1:=oM
 go_enter func153,ntmps153
 go_wp2_with (first|(go_at_call 83;refine (over_q r g j m (c+2) K S N A _ (h.below tq6)).mono ?_;rintro e w9 ⟨rfl,rfl⟩))
 try simp only [Exit.inBlock,Exit.then]
 refine bodyPost_ret (v:=.agg #[.int .i64 K,.string S,.int .i64 N,.int .i64 A,.bool false]) (by simp [results,results153,go_sem, *]) rfl ⟨rfl,by (repeat' (first|refine RF.new ?_ lt tq5 _|(refine RF.alloc ?_ lt _)|(refine RF.drew ?_ lt)|refine RF.set ?_ _|exact Hid.out aM|exact RF.refl _ _)),fun _=>by simp [go_sem, *],fun e=>by subst e;exact ⟨j+5,c+1,by simp [go_sem, *]⟩⟩
theorem next_1(r g j:Nat)(K:Int)(S:ByteArray)(N A:Int)(w:World)(h:Rq w r g j 0 1 K S N A): Calls prog 153 #[.pointer (some ⟨r,0,none⟩)] w fun e w'=>NextP w r g j 0 1 K S N A e w':=by
 obtain ⟨lt,glt,ne,hcap,c0,c1,c2,c3,c4,f0,h0,h1,h2,h3,h4⟩ :=id h
 have glt:=glt
 have rlt:=lt
 have:¬g=r:=fun e=>ne e.symm
 have:¬r=g:=ne
 have:g<w.heap.size+1:=oM
 have:g<w.heap.size+1+1:=oM
 have:g<w.heap.size+1+1+1:=oM
 have:g<w.heap.size+1+1+1+1:=oM
 have:r<w.heap.size+1:=oM
 have:r<w.heap.size+1+1:=oM
 have:r<w.heap.size+1+1+1:=oM
 have:r<w.heap.size+1+1+1+1:=oM
 go_enter func153,ntmps153
 go_wp2_with (first|(go_at_call 83;refine (over_q r g j 0 1 K S N A _ (h.below tq6)).mono ?_;rintro e w9 ⟨rfl,rfl⟩))
 try simp only [Exit.inBlock,Exit.then]
 refine bodyPost_ret (v:=.agg #[.int .i64 K,.string S,.int .i64 N,.int .i64 A,.bool false]) (by simp [results,results153,go_sem, *]) rfl ⟨rfl,by (repeat' (first|refine RF.new ?_ lt tq5 _|(refine RF.alloc ?_ lt _)|(refine RF.drew ?_ lt)|refine RF.set ?_ _|exact Hid.out aM|exact RF.refl _ _)),fun e=>absurd e oM,fun _=>⟨j,0,by simp [go_sem, *]⟩⟩
theorem next_q(r g j m cap:Nat)(K:Int)(S:ByteArray)(N A:Int)(w:World)(h:Rq w r g j m cap K S N A): Calls prog 153 #[.pointer (some ⟨r,0,none⟩)] w fun e w'=>NextP w r g j m cap K S N A e w':=by
 have hc:=h.hcap
 obtain ⟨c,rfl⟩|rfl:(∃c,cap=c+2)∨cap=1:=by
  by_cases h1:cap=1
  ·exact .inr h1
  ·exact .inl ⟨cap-2,by omega⟩
 ·exact next_c r g j m c K S N A w h
 ·obtain rfl:m=0:=oM
  exact next_1 r g j K S N A w h
theorem Rq.setO{w:World}{r g j m cap:Nat}{K:Int}{S:ByteArray}{N A:Int}(h:Rq w r g j m cap K S N A){a:Addr}(h1:a.block≠r)(h2:a.block≠g)(v:Value): Rq (w.setCell a v) r g j m cap K S N A:=
 ⟨by simpa [World.setCell] using h.lt,by simpa [World.setCell] using h.glt,h.ne,h.hcap,(qO (by intro e;exact h1 (by rw [e]))).trans h.c0,(qO (by intro e;exact h1 (by rw [e]))).trans h.c1,(qO (by intro e;exact h1 (by rw [e]))).trans h.c2,(qO (by intro e;exact h1 (by rw [e]))).trans h.c3,(qO (by intro e;exact h1 (by rw [e]))).trans h.c4,qF.trans h.f0,(qO (by intro e;exact h2 (by rw [e]))).trans h.h0,(qO (by intro e;exact h2 (by rw [e]))).trans h.h1,(qO (by intro e;exact h2 (by rw [e]))).trans h.h2,(qO (by intro e;exact h2 (by rw [e]))).trans h.h3,(qO (by intro e;exact h2 (by rw [e]))).trans h.h4⟩
theorem rf_step{r:Nat}{w W w':World}(a:RF r w W)(hf:RF r W w'): Hid (RF r w w'):=hid (a.trans hf)
theorem Rq.step{w w':World}{r g j m cap:Nat}{K:Int}{S:ByteArray}{N A:Int}(h:Rq w r g j (m+1) cap K S N A)(hf:RF r w w')(c0:w'.cell? ⟨r,0,none⟩=some (.slice (some ⟨g,j+5,none⟩) (m+1) (cap-1))){K':Int}{S':ByteArray}{N' A':Int}(h0:w.cell? ⟨g,j+5,none⟩=some (.int .i64 K'))(h1:w.cell? ⟨g,j+5+1,none⟩=some (.string S'))(h2:w.cell? ⟨g,j+5+2,none⟩=some (.int .i64 N'))(h3:w.cell? ⟨g,j+5+3,none⟩=some (.int .i64 A'))(h4:w.cell? ⟨g,j+5+4,none⟩=some (.bool false)): Rq w' r g (j+5) m (cap-1) K' S' N' A':=
 ⟨Nat.lt_of_lt_of_le h.lt hf.gr.size,Nat.lt_of_lt_of_le h.glt hf.gr.size,h.ne,by have:=h.hcap;omega,c0,(hf.cl 1 oM).trans h.c1,(hf.cl 2 oM).trans h.c2,(hf.cl 3 oM).trans h.c3,(hf.cl 4 oM).trans h.c4,(hf.fz 0).trans h.f0,(hf.far h.glt h.ne).trans h0,(hf.far h.glt h.ne).trans h1,(hf.far h.glt h.ne).trans h2,(hf.far h.glt h.ne).trans h3,(hf.far h.glt h.ne).trans h4⟩
abbrev Rd0 (w:World) (r g cap:Nat):Prop:=Rq w r g 0 3 cap 1 ⟨#[36]⟩ 0 0∧Tk w g
abbrev Rd1 (w:World) (r g cap:Nat):Prop:=Rq w r g 5 2 cap 1 ⟨#[91]⟩ 0 1∧Tk w g
abbrev Rd2 (w:World) (r g cap:Nat):Prop:=Rq w r g 10 1 cap 3 ⟨#[]⟩ 0 2∧Tk w g
abbrev Rd3 (w:World) (r g cap:Nat):Prop:=Rq w r g 15 0 cap 1 ⟨#[93]⟩ 0 3∧Tk w g
structure Rd4 (w:World) (r g:Nat):Prop where
 lt:r<w.heap.size
 c0:∃o c,w.cell? ⟨r,0,none⟩=some (.slice (some ⟨g,o,none⟩) 0 c)
 c1:w.cell? ⟨r,1,none⟩=some (.int .i64 4)
 c2:w.cell? ⟨r,2,none⟩=some (.int .i64 0)
 c3:w.cell? ⟨r,3,none⟩=some (.int .i64 0)
 c4:w.cell? ⟨r,4,none⟩=some (.int .i64 0)
theorem Rd4.below{w w':World}{r g:Nat}(h:Rd4 w r g)(hb:Below w.heap.size w w'): Rd4 w' r g:=by
 obtain ⟨o,c,h0⟩ :=h.c0
 exact ⟨Nat.lt_of_lt_of_le h.lt hb.size,⟨o,c,(hb.cell (p:=⟨r,0,none⟩) h.lt).trans h0⟩,(hb.cell (p:=⟨r,1,none⟩) h.lt).trans h.c1,(hb.cell (p:=⟨r,2,none⟩) h.lt).trans h.c2,(hb.cell (p:=⟨r,3,none⟩) h.lt).trans h.c3,(hb.cell (p:=⟨r,4,none⟩) h.lt).trans h.c4⟩
theorem Rd4.of{w w':World}{r g j cap:Nat}{K:Int}{S:ByteArray}{N A:Int}(h:Rq w r g j 0 cap K S N A)(hf:RF r w w')(c0:∃o c,w'.cell? ⟨r,0,none⟩=some (.slice (some ⟨g,o,none⟩) 0 c)): Rd4 w' r g:=
 ⟨Nat.lt_of_lt_of_le h.lt hf.gr.size,c0,(hf.cl 1 oM).trans h.c1,(hf.cl 2 oM).trans h.c2,(hf.cl 3 oM).trans h.c3,(hf.cl 4 oM).trans h.c4⟩
theorem Rd4.setO{w:World}{r g:Nat}(h:Rd4 w r g){a:Addr}(h1:a.block≠r)(v:Value): Rd4 (w.setCell a v) r g:=by
 obtain ⟨o,c,h0⟩ :=h.c0
 have ho:∀c,(w.setCell a v).cell? ⟨r,c,none⟩=w.cell? ⟨r,c,none⟩ :=fun c=>qO (by intro e;exact h1 (by rw [e]))
 exact ⟨by simpa [World.setCell] using h.lt,⟨o,c,(ho 0).trans h0⟩,(ho 1).trans h.c1,(ho 2).trans h.c2,(ho 3).trans h.c3,(ho 4).trans h.c4⟩
theorem Tk.rf{w w':World}{r g:Nat}(h:Tk w g)(hf:RF r w w')(hne:r≠g): Tk w' g:=
 ⟨Nat.lt_of_lt_of_le h.lt hf.gr.size,(hf.far h.lt hne).trans h.c0,(hf.far h.lt hne).trans h.c1,(hf.far h.lt hne).trans h.c2,(hf.far h.lt hne).trans h.c3,(hf.far h.lt hne).trans h.c4,(hf.far h.lt hne).trans h.c5,(hf.far h.lt hne).trans h.c6,(hf.far h.lt hne).trans h.c7,(hf.far h.lt hne).trans h.c8,(hf.far h.lt hne).trans h.c9,(hf.far h.lt hne).trans h.c10,(hf.far h.lt hne).trans h.c11,(hf.far h.lt hne).trans h.c12,(hf.far h.lt hne).trans h.c13,(hf.far h.lt hne).trans h.c14,(hf.far h.lt hne).trans h.c15,(hf.far h.lt hne).trans h.c16,(hf.far h.lt hne).trans h.c17,(hf.far h.lt hne).trans h.c18,(hf.far h.lt hne).trans h.c19⟩
theorem next_0(r g cap:Nat)(w:World)(h:Rd0 w r g cap): Calls prog 153 #[.pointer (some ⟨r,0,none⟩)] w fun e w'=>e=.returned (.agg #[.int .i64 1,.string ⟨#[36]⟩,.int .i64 0,.int .i64 0,.bool false])∧RF r w w'∧Rd1 w' r g (cap-1):=
 (next_q r g 0 3 cap 1 _ 0 0 w h.1).mono fun e w' ⟨h1,h2,h3,_⟩ =>⟨h1,h2,h.1.step h2 (h3 oM) h.2.c5 h.2.c6 h.2.c7 h.2.c8 h.2.c9,h.2.rf h2 h.1.ne⟩
theorem next_1'(r g cap:Nat)(w:World)(h:Rd1 w r g cap): Calls prog 153 #[.pointer (some ⟨r,0,none⟩)] w fun e w'=>e=.returned (.agg #[.int .i64 1,.string ⟨#[91]⟩,.int .i64 0,.int .i64 1,.bool false])∧RF r w w'∧Rd2 w' r g (cap-1):=
 (next_q r g 5 2 cap 1 _ 0 1 w h.1).mono fun e w' ⟨h1,h2,h3,_⟩ =>⟨h1,h2,h.1.step h2 (h3 oM) h.2.c10 h.2.c11 h.2.c12 h.2.c13 h.2.c14,h.2.rf h2 h.1.ne⟩
theorem next_2(r g cap:Nat)(w:World)(h:Rd2 w r g cap): Calls prog 153 #[.pointer (some ⟨r,0,none⟩)] w fun e w'=>e=.returned (.agg #[.int .i64 3,.string ⟨#[]⟩,.int .i64 0,.int .i64 2,.bool false])∧RF r w w'∧Rd3 w' r g (cap-1):=
 (next_q r g 10 1 cap 3 _ 0 2 w h.1).mono fun e w' ⟨h1,h2,h3,_⟩ =>⟨h1,h2,h.1.step h2 (h3 oM) h.2.c15 h.2.c16 h.2.c17 h.2.c18 h.2.c19,h.2.rf h2 h.1.ne⟩
theorem next_3(r g cap:Nat)(w:World)(h:Rd3 w r g cap): Calls prog 153 #[.pointer (some ⟨r,0,none⟩)] w fun e w'=>e=.returned (.agg #[.int .i64 1,.string ⟨#[93]⟩,.int .i64 0,.int .i64 3,.bool false])∧RF r w w'∧Rd4 w' r g:=
 (next_q r g 15 0 cap 1 _ 0 3 w h.1).mono fun e w' ⟨h1,h2,_,h4⟩ =>⟨h1,h2,.of h.1 h2 (h4 rfl)⟩
theorem take_1(r g cap:Nat)(w:World)(h:Rd1 w r g cap): Calls prog 217 #[.pointer (some ⟨r,0,none⟩),.string ⟨#[91]⟩] w fun e w'=>e=.returned (.bool true)∧RF r w w'∧Rd2 w' r g (cap-1):=by
 have lt:=h.1.lt
 have glt:=h.1.glt
 go_enter func217,ntmps217
 go_wp2_with fail
 refine (is_s r g _ _ _ _ _ _ _ true (by simp only [ByteArray.toList_eq];decide) _ (Rq.below h.1 tq6)).mono ?_;rintro e w9 ⟨rfl,rfl⟩
 go_wp2_with fail
 refine (next_1' r g cap _ h).mono ?_;rintro e w1 ⟨rfl,hf,hn⟩
 go_wp2_with fail
 go_ret
 exact ⟨rfl,hf,hn⟩
theorem must_1(r g cap:Nat)(w:World)(h:Rd1 w r g cap): Calls prog 279 #[.pointer (some ⟨r,0,none⟩),.string ⟨#[91]⟩] w fun e w'=>e=.returned (.tuple #[])∧RF r w w'∧Rd2 w' r g (cap-1):=by
 have lt:=h.1.lt
 have glt:=h.1.glt
 go_enter func279,ntmps279
 go_wp2_with fail
 refine (take_1 r g cap _ h).mono ?_;rintro e w1 ⟨rfl,hf,hn⟩
 go_wp2_with fail
 refine bodyPost_end (v:=.tuple #[]) (by simp [results,results279,go_sem]) rfl ⟨rfl,hf,hn⟩
theorem take_3(r g cap:Nat)(w:World)(h:Rd3 w r g cap): Calls prog 217 #[.pointer (some ⟨r,0,none⟩),.string ⟨#[93]⟩] w fun e w'=>e=.returned (.bool true)∧RF r w w'∧Rd4 w' r g:=by
 have lt:=h.1.lt
 have glt:=h.1.glt
 go_enter func217,ntmps217
 go_wp2_with fail
 refine (is_s r g _ _ _ _ _ _ _ true (by simp only [ByteArray.toList_eq];decide) _ (Rq.below h.1 tq6)).mono ?_;rintro e w9 ⟨rfl,rfl⟩
 go_wp2_with fail
 refine (next_3 r g cap _ h).mono ?_;rintro e w1 ⟨rfl,hf,hn⟩
 go_wp2_with fail
 go_ret
 exact ⟨rfl,hf,hn⟩
theorem must_3(r g cap:Nat)(w:World)(h:Rd3 w r g cap): Calls prog 279 #[.pointer (some ⟨r,0,none⟩),.string ⟨#[93]⟩] w fun e w'=>e=.returned (.tuple #[])∧RF r w w'∧Rd4 w' r g:=by
 have lt:=h.1.lt
 have glt:=h.1.glt
 go_enter func279,ntmps279
 go_wp2_with fail
 refine (take_3 r g cap _ h).mono ?_;rintro e w1 ⟨rfl,hf,hn⟩
 go_wp2_with fail
 refine bodyPost_end (v:=.tuple #[]) (by simp [results,results279,go_sem]) rfl ⟨rfl,hf,hn⟩
theorem number_2(r g cap:Nat)(w:World)(h:Rd2 w r g cap): Calls prog 355 #[.pointer (some ⟨r,0,none⟩)] w fun e w'=>e=.returned (.tuple #[.int .i64 0,.bool true])∧RF r w w'∧Rd3 w' r g (cap-1):=by
 have lt:=h.1.lt
 have glt:=h.1.glt
 have:∀w:World,(Instr.field 262 (.agg #[.int .i64 3,.string ⟨#[]⟩,.int .i64 0,.int .i64 2,.bool false]) 2).run prog w=.ok (.int .i64 0) w:=fun _=>by kernel_rfl
 go_enter func355,ntmps355
 go_wp2_with (first|(go_at_call 150;refine (kind_q r g _ _ _ _ _ _ _ _ h.1).mono ?_;rintro e w9 ⟨rfl,rfl⟩))
 refine (next_2 r g cap _ h).mono ?_;rintro e w1 ⟨rfl,hf,hn⟩
 go_wp2_with fail
 go_ret2
 exact ⟨rfl,hf,hn⟩
theorem take_no(r g j m cap:Nat)(S:ByteArray)(N A:Int)(s:ByteArray)(hb:(S.toList==s.toList)=false)(w:World)(h:Rq w r g j m cap 1 S N A): Calls prog 217 #[.pointer (some ⟨r,0,none⟩),.string s] w fun e w'=>e=.returned (.bool false)∧w=w':=by
 go_enter func217,ntmps217
 go_wp2_with fail
 refine (is_s r g j m cap S N A s false hb w h).mono ?_;rintro e w1 ⟨rfl,rfl⟩
 go_wp2_with fail
 go_ret
 exact ⟨rfl,rfl⟩
theorem take_non(r g j m cap:Nat)(K:Int)(S:ByteArray)(N A:Int)(s:ByteArray)(hK:¬K=1)(w:World)(h:Rq w r g j m cap K S N A): Calls prog 217 #[.pointer (some ⟨r,0,none⟩),.string s] w fun e w'=>e=.returned (.bool false)∧w=w':=by
 go_enter func217,ntmps217
 go_wp2_with fail
 refine (is_no r g j m cap K S N A s hK w h).mono ?_;rintro e w1 ⟨rfl,rfl⟩
 go_wp2_with fail
 go_ret
 exact ⟨rfl,rfl⟩
theorem numbers_2(r g cap:Nat)(w:World)(h:Rd2 w r g cap): Calls prog 323 #[.pointer (some ⟨r,0,none⟩)] w fun e w'=>e=.returned (.agg #[.int .i64 2,.string ⟨#[]⟩,.int .i64 0,.int .i64 0,.int .i64 0,.int .i64 0,.bool false,.bool false,.pointer none])∧RF r w w'∧Rd3 w' r g (cap-1):=by
 have lt:=h.1.lt
 have glt:=h.1.glt
 go_enter func323,ntmps323
 go_wp2_with fail
 refine (number_2 r g cap _ (⟨h.1.below tq6,h.2.below tq6⟩)).mono ?_;rintro e w1 ⟨rfl,hf,hn⟩
 have s1:=hf.gr.size;try simp at s1
 try (have:w.heap.size<w1.heap.size:=oM)
 try (have:w.heap.size<w1.heap.size+1:=oM)
 try (have:w.heap.size<w1.heap.size+1+1:=oM)
 try (have:r<w1.heap.size:=oM)
 try (have e1_0:=hf.far (b:=w.heap.size) (c:=0) tq5 oM;simp [go_sem] at e1_0)
 try (have f1_0:=hf.farz (b:=w.heap.size) (c:=0) tq5 oM;simp [go_sem] at f1_0)
 try (have e1_1:=hf.far (b:=w.heap.size) (c:=1) tq5 oM;simp [go_sem] at e1_1)
 try (have f1_1:=hf.farz (b:=w.heap.size) (c:=1) tq5 oM;simp [go_sem] at f1_1)
 try (have e1_2:=hf.far (b:=w.heap.size) (c:=2) tq5 oM;simp [go_sem] at e1_2)
 try (have f1_2:=hf.farz (b:=w.heap.size) (c:=2) tq5 oM;simp [go_sem] at f1_2)
 try (have e1_3:=hf.far (b:=w.heap.size) (c:=3) tq5 oM;simp [go_sem] at e1_3)
 try (have f1_3:=hf.farz (b:=w.heap.size) (c:=3) tq5 oM;simp [go_sem] at f1_3)
 try (have e1_4:=hf.far (b:=w.heap.size) (c:=4) tq5 oM;simp [go_sem] at e1_4)
 try (have f1_4:=hf.farz (b:=w.heap.size) (c:=4) tq5 oM;simp [go_sem] at f1_4)
 try (have e1_5:=hf.far (b:=w.heap.size) (c:=5) tq5 oM;simp [go_sem] at e1_5)
 try (have f1_5:=hf.farz (b:=w.heap.size) (c:=5) tq5 oM;simp [go_sem] at f1_5)
 try (have e1_6:=hf.far (b:=w.heap.size) (c:=6) tq5 oM;simp [go_sem] at e1_6)
 try (have f1_6:=hf.farz (b:=w.heap.size) (c:=6) tq5 oM;simp [go_sem] at f1_6)
 try (have e1_7:=hf.far (b:=w.heap.size) (c:=7) tq5 oM;simp [go_sem] at e1_7)
 try (have f1_7:=hf.farz (b:=w.heap.size) (c:=7) tq5 oM;simp [go_sem] at f1_7)
 try (have e1_8:=hf.far (b:=w.heap.size) (c:=8) tq5 oM;simp [go_sem] at e1_8)
 try (have f1_8:=hf.farz (b:=w.heap.size) (c:=8) tq5 oM;simp [go_sem] at f1_8)
 have F1:=rf_step (r:=r) (w:=w) (by (repeat' (first|refine RF.new ?_ lt tq5 _|(refine RF.alloc ?_ lt _)|(refine RF.drew ?_ lt)|refine RF.set ?_ _|exact Hid.out aM|exact RF.refl _ _))) hf
 clear hf
 go_wp2_with fail
 refine (take_no r g _ _ _ _ _ _ _ (by simp only [ByteArray.toList_eq];decide) _ (Rq.below hn.1 tq6)).mono ?_;rintro e w2 ⟨rfl,rfl⟩
 go_wp2_with fail
 try simp only [Exit.inBlock,Exit.then]
 refine bodyPost_ret (v:=.agg #[.int .i64 2,.string ⟨#[]⟩,.int .i64 0,.int .i64 0,.int .i64 0,.int .i64 0,.bool false,.bool false,.pointer none]) (by simp [results,results323,go_sem,e1_0,e1_1,e1_2,e1_3,e1_4,e1_5,e1_6,e1_7,e1_8]) rfl ⟨rfl,by (repeat' (first|refine RF.new ?_ lt tq5 _|(refine RF.alloc ?_ lt _)|(refine RF.drew ?_ lt)|refine RF.set ?_ _|exact Hid.out aM|exact RF.refl _ _)),⟨(by repeat' (first|refine Rq.setO ?_ tq5 tq5 _|refine Rq.below ?_ (qR.alloc qL _)|exact hn.1)),(by repeat' (first|refine Tk.set ?_ _ _ tq5|refine Tk.below ?_ (qR.alloc qL _)|exact hn.2))⟩⟩
theorem sel_2(r g cap:Nat)(w:World)(h:Rd2 w r g cap): Calls prog 280 #[.pointer (some ⟨r,0,none⟩)] w fun e w'=>e=.returned (.agg #[.int .i64 2,.string ⟨#[]⟩,.int .i64 0,.int .i64 0,.int .i64 0,.int .i64 0,.bool false,.bool false,.pointer none])∧RF r w w'∧Rd3 w' r g (cap-1):=by
 have lt:=h.1.lt
 have glt:=h.1.glt
 go_enter func280,ntmps280
 go_wp2_with (first|(go_at_call 150;refine (kind_q r g _ _ _ _ _ _ _ _ (Rq.below h.1 (qR.alloc qL _))).mono ?_;rintro e w9 ⟨rfl,rfl⟩)|(go_at_call 217;refine (take_non r g _ _ _ _ _ _ _ _ (by decide) _ (Rq.below h.1 (qR.alloc qL _))).mono ?_;rintro e w9 ⟨rfl,rfl⟩)|(go_at_call 80;refine (is_no r g _ _ _ _ _ _ _ _ (by decide) _ (Rq.below h.1 (qR.alloc qL _))).mono ?_;rintro e w9 ⟨rfl,rfl⟩))
 refine (numbers_2 r g cap _ ⟨(by repeat' (first|refine Rq.setO ?_ tq5 tq5 _|refine Rq.below ?_ (qR.alloc qL _)|exact h.1)),(by repeat' (first|refine Tk.set ?_ _ _ tq5|refine Tk.below ?_ (qR.alloc qL _)|exact h.2))⟩).mono ?_;rintro e w1 ⟨rfl,hf,hn⟩
 have s1:=hf.gr.size;try simp at s1
 try (have:w.heap.size<w1.heap.size:=oM)
 try (have:w.heap.size<w1.heap.size+1:=oM)
 try (have:w.heap.size<w1.heap.size+1+1:=oM)
 try (have:r<w1.heap.size:=oM)
 try (have e1_0:=hf.far (b:=w.heap.size) (c:=0) tq5 oM;simp [go_sem] at e1_0)
 try (have f1_0:=hf.farz (b:=w.heap.size) (c:=0) tq5 oM;simp [go_sem] at f1_0)
 try (have e1_1:=hf.far (b:=w.heap.size) (c:=1) tq5 oM;simp [go_sem] at e1_1)
 try (have f1_1:=hf.farz (b:=w.heap.size) (c:=1) tq5 oM;simp [go_sem] at f1_1)
 try (have e1_2:=hf.far (b:=w.heap.size) (c:=2) tq5 oM;simp [go_sem] at e1_2)
 try (have f1_2:=hf.farz (b:=w.heap.size) (c:=2) tq5 oM;simp [go_sem] at f1_2)
 try (have e1_3:=hf.far (b:=w.heap.size) (c:=3) tq5 oM;simp [go_sem] at e1_3)
 try (have f1_3:=hf.farz (b:=w.heap.size) (c:=3) tq5 oM;simp [go_sem] at f1_3)
 try (have e1_4:=hf.far (b:=w.heap.size) (c:=4) tq5 oM;simp [go_sem] at e1_4)
 try (have f1_4:=hf.farz (b:=w.heap.size) (c:=4) tq5 oM;simp [go_sem] at f1_4)
 try (have e1_5:=hf.far (b:=w.heap.size) (c:=5) tq5 oM;simp [go_sem] at e1_5)
 try (have f1_5:=hf.farz (b:=w.heap.size) (c:=5) tq5 oM;simp [go_sem] at f1_5)
 try (have e1_6:=hf.far (b:=w.heap.size) (c:=6) tq5 oM;simp [go_sem] at e1_6)
 try (have f1_6:=hf.farz (b:=w.heap.size) (c:=6) tq5 oM;simp [go_sem] at f1_6)
 try (have e1_7:=hf.far (b:=w.heap.size) (c:=7) tq5 oM;simp [go_sem] at e1_7)
 try (have f1_7:=hf.farz (b:=w.heap.size) (c:=7) tq5 oM;simp [go_sem] at f1_7)
 try (have e1_8:=hf.far (b:=w.heap.size) (c:=8) tq5 oM;simp [go_sem] at e1_8)
 try (have f1_8:=hf.farz (b:=w.heap.size) (c:=8) tq5 oM;simp [go_sem] at f1_8)
 have F1:=rf_step (r:=r) (w:=w) (by (repeat' (first|refine RF.new ?_ lt tq5 _|(refine RF.alloc ?_ lt _)|(refine RF.drew ?_ lt)|refine RF.set ?_ _|exact Hid.out aM|exact RF.refl _ _))) hf
 clear hf
 go_wp2_with fail
 try simp only [Exit.inBlock,Exit.then]
 refine bodyPost_ret (v:=.agg #[.int .i64 2,.string ⟨#[]⟩,.int .i64 0,.int .i64 0,.int .i64 0,.int .i64 0,.bool false,.bool false,.pointer none]) (by simp [results,results280,go_sem,e1_0,e1_1,e1_2,e1_3,e1_4,e1_5,e1_6,e1_7,e1_8]) rfl ⟨rfl,by (repeat' (first|refine RF.new ?_ lt tq5 _|(refine RF.alloc ?_ lt _)|(refine RF.drew ?_ lt)|refine RF.set ?_ _|exact Hid.out aM|exact RF.refl _ _)),⟨(by repeat' (first|refine Rq.setO ?_ tq5 tq5 _|refine Rq.below ?_ (qR.alloc qL _)|exact hn.1)),(by repeat' (first|refine Tk.set ?_ _ _ tq5|refine Tk.below ?_ (qR.alloc qL _)|exact hn.2))⟩⟩
structure Sl (w:World) (s:Nat):Prop where
 lt:s<w.heap.size
 c0:w.cell? ⟨s,0,none⟩=some (.int .i64 2)
 c1:w.cell? ⟨s,1,none⟩=some (.string ⟨#[]⟩)
 c2:w.cell? ⟨s,2,none⟩=some (.int .i64 0)
 c3:w.cell? ⟨s,3,none⟩=some (.int .i64 0)
 c4:w.cell? ⟨s,4,none⟩=some (.int .i64 0)
 c5:w.cell? ⟨s,5,none⟩=some (.int .i64 0)
 c6:w.cell? ⟨s,6,none⟩=some (.bool false)
 c7:w.cell? ⟨s,7,none⟩=some (.bool false)
 c8:w.cell? ⟨s,8,none⟩=some (.pointer none)
theorem Sl.of{w w':World}{s:Nat}(h:Sl w s)(hs:w.heap.size≤w'.heap.size)(hc:∀c,w'.cell? ⟨s,c,none⟩=w.cell? ⟨s,c,none⟩): Sl w' s:=
 ⟨Nat.lt_of_lt_of_le h.lt hs,(hc 0).trans h.c0,(hc 1).trans h.c1,(hc 2).trans h.c2,(hc 3).trans h.c3,(hc 4).trans h.c4,(hc 5).trans h.c5,(hc 6).trans h.c6,(hc 7).trans h.c7,(hc 8).trans h.c8⟩
theorem Sl.below{w w':World}{s:Nat}(h:Sl w s)(hb:Below w.heap.size w w'): Sl w' s:=h.of hb.size fun c=>hb.cell (p:=⟨s,c,none⟩) h.lt
theorem Sl.rf{w w':World}{r s:Nat}(h:Sl w s)(hf:RF r w w')(hne:r≠s): Sl w' s:=h.of hf.gr.size fun c=>hf.far h.lt hne
theorem Sl.set{w:World}{s:Nat}(h:Sl w s){a:Addr}(hne:a.block≠s)(v:Value): Sl (w.setCell a v) s:=h.of (by simp [World.setCell]) fun c=>qO (by intro e;exact hne (by rw [e]))
theorem sels_1(r g cap:Nat)(w:World)(h:Rd1 w r g cap): Calls prog 215 #[.pointer (some ⟨r,0,none⟩)] w fun e w'=>∃s,e=.returned (.slice (some ⟨s,0,none⟩) 1 1)∧RF r w w'∧w.heap.size≤s∧Sl w' s∧Rd4 w' r g:=by
 have lt:=h.1.lt
 have glt:=h.1.glt
 go_enter func215,ntmps215
 go_wp2_with fail
 refine (must_1 r g cap _ ⟨(by repeat' (first|refine Rq.setO ?_ tq5 tq5 _|refine Rq.below ?_ (qR.alloc qL _)|exact h.1)),(by repeat' (first|refine Tk.set ?_ _ _ tq5|refine Tk.below ?_ (qR.alloc qL _)|exact h.2))⟩).mono ?_;rintro e w1 ⟨rfl,hf,hn⟩
 have:r<w1.heap.size:=hn.1.lt
 have F1:=rf_step (r:=r) (w:=w) (by (repeat' (first|refine RF.new ?_ lt tq5 _|(refine RF.alloc ?_ lt _)|(refine RF.drew ?_ lt)|refine RF.set ?_ _|exact Hid.out aM|exact RF.refl _ _))) hf
 clear hf
 go_wp2_with fail
 refine (sel_2 r g (cap-1) _ ⟨(by repeat' (first|refine Rq.setO ?_ tq5 tq5 _|refine Rq.below ?_ (qR.alloc qL _)|exact hn.1)),(by repeat' (first|refine Tk.set ?_ _ _ tq5|refine Tk.below ?_ (qR.alloc qL _)|exact hn.2))⟩).mono ?_;rintro e w2 ⟨rfl,hf,hn2⟩
 have:r<w2.heap.size:=hn2.1.lt
 have F2:=rf_step (r:=r) (w:=w) (by (repeat' (first|refine RF.new ?_ lt tq5 _|(refine RF.alloc ?_ lt _)|(refine RF.drew ?_ lt)|refine RF.set ?_ _|exact Hid.out aM|exact RF.refl _ _))) hf
 clear hf
 go_wp2_with (first|(refine wp_loop_unr 2 ?_;refine Unr.step ?_;intro U hU)|(refine Unr.step ?_;intro U hU)|(go_at_call 217;refine (take_no r g _ _ _ _ _ _ _ (by simp only [ByteArray.toList_eq];decide) _ (Rq.below hn2.1 (qR.alloc qL _))).mono ?_;rintro e w9 ⟨rfl,rfl⟩))
 refine (must_3 r g (cap-1-1) _ ⟨(by repeat' (first|refine Rq.setO ?_ tq5 tq5 _|refine Rq.below ?_ (qR.alloc qL _)|exact hn2.1)),(by repeat' (first|refine Tk.set ?_ _ _ tq5|refine Tk.below ?_ (qR.alloc qL _)|exact hn2.2))⟩).mono ?_;rintro e w3 ⟨rfl,hf,hn3⟩
 have:r<w3.heap.size:=hn3.lt
 have F3:=rf_step (r:=r) (w:=w) (by (repeat' (first|refine RF.new ?_ lt tq5 _|(refine RF.alloc ?_ lt _)|(refine RF.drew ?_ lt)|refine RF.set ?_ _|exact Hid.out aM|exact RF.refl _ _))) hf
 have hS:Sl w3 w2.heap.size:=Sl.rf (Sl.mk sM (by simp [go_sem]) (by simp [go_sem]) (by simp [go_sem]) (by simp [go_sem]) (by simp [go_sem]) (by simp [go_sem]) (by simp [go_sem]) (by simp [go_sem]) (by simp [go_sem])) hf oM
 have hsz:=F2.out.gr.size
 go_wp2_with fail
 try simp only [Exit.inBlock,Exit.then]
 refine bodyPost_ret (v:=.slice (some ⟨w2.heap.size,0,none⟩) 1 1) (by simp [results,results215,go_sem]) rfl ⟨w2.heap.size,by simp,by (repeat' (first|refine RF.new ?_ lt tq5 _|(refine RF.alloc ?_ lt _)|(refine RF.drew ?_ lt)|refine RF.set ?_ _|exact Hid.out aM|exact RF.refl _ _)),hsz,hS,hn3⟩
theorem seg_1(r g cap:Nat)(w:World)(h:Rd1 w r g cap): Calls prog 154 #[.pointer (some ⟨r,0,none⟩)] w fun e w'=>∃s,e=.returned (.agg #[.bool false,.slice (some ⟨s,0,none⟩) 1 1])∧RF r w w'∧w.heap.size≤s∧Sl w' s∧Rd4 w' r g:=by
 have lt:=h.1.lt
 have glt:=h.1.glt
 go_enter func154,ntmps154
 go_wp2_with (first|(go_at_call 80;refine (is_s r g _ _ _ _ _ _ _ true (by simp only [ByteArray.toList_eq];decide) _ (Rq.below h.1 (qR.alloc qL _))).mono ?_;rintro e w9 ⟨rfl,rfl⟩))
 refine (sels_1 r g cap _ ⟨(by repeat' (first|refine Rq.setO ?_ tq5 tq5 _|refine Rq.below ?_ (qR.alloc qL _)|exact h.1)),(by repeat' (first|refine Tk.set ?_ _ _ tq5|refine Tk.below ?_ (qR.alloc qL _)|exact h.2))⟩).mono ?_;rintro e w1 ⟨s,rfl,hf,hs,hS,hn⟩
 have s1:=hf.gr.size;try simp at s1
 try (have:w.heap.size<w1.heap.size:=oM)
 try (have:w.heap.size<w1.heap.size+1:=oM)
 try (have:w.heap.size<w1.heap.size+1+1:=oM)
 try (have lr1:r<w1.heap.size:=oM)
 try (have e1_0:=hf.far (b:=w.heap.size) (c:=0) tq5 oM;simp [go_sem] at e1_0)
 try (have f1_0:=hf.farz (b:=w.heap.size) (c:=0) tq5 oM;simp [go_sem] at f1_0)
 try (have e1_1:=hf.far (b:=w.heap.size) (c:=1) tq5 oM;simp [go_sem] at e1_1)
 try (have f1_1:=hf.farz (b:=w.heap.size) (c:=1) tq5 oM;simp [go_sem] at f1_1)
 simp at hs
 have lr1:r<w1.heap.size:=hn.lt
 have F1:=rf_step (r:=r) (w:=w) (by (repeat' (first|refine RF.new ?_ lt tq5 _|(refine RF.alloc ?_ lt _)|(refine RF.drew ?_ lt)|refine RF.set ?_ _|exact Hid.out aM|exact RF.refl _ _))) hf
 clear hf
 go_wp2_with fail
 try simp only [Exit.inBlock,Exit.then]
 refine bodyPost_ret (v:=.agg #[.bool false,.slice (some ⟨s,0,none⟩) 1 1]) (by simp [results,results154,go_sem,e1_0,e1_1]) rfl ⟨s,by simp,by (repeat' (first|refine RF.new ?_ lt tq5 _|(refine RF.alloc ?_ lt _)|(refine RF.drew ?_ lt)|refine RF.set ?_ _|exact Hid.out aM|exact RF.refl _ _)),by omega,by repeat' (first|refine Sl.set ?_ tq5 _|exact hS),(by repeat' (first|refine Rd4.setO ?_ tq5 _|refine Rd4.below ?_ (qR.alloc qL _)|exact hn))⟩
end
end Go.Proofs.YtjcioljdlfdnbaaGreatDoor
