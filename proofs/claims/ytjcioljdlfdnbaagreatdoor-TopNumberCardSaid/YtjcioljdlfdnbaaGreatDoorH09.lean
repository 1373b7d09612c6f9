/- Part 9: lemmas for TopNumber; no conditions. -/
import Derived.Test.YtjcioljdlfdnbaaGreatDoorH07
import Derived.Test.YtjcioljdlfdnbaaGreatDoorRows
import Derived.Shelf.RegionOpen
set_option linter.unusedVariables false
set_option linter.unusedSimpArgs false
set_option maxRecDepth 100000
set_option maxHeartbeats 2000000
open Go.Proofs.Tryz
namespace Go.Proofs.YtjcioljdlfdnbaaGreatDoor
namespace Nn
open Go.RowKit
open Np
structure Nb (m:Bool) (A:List Nat) (g c:Nat) (P E:Int) (p:Nat) (W:World):Prop where
 lt:p<W.heap.size
 c0:W.cell? ⟨p,0,none⟩=some (.bool m)
 c1:W.cell? ⟨p,1,none⟩=some (.slice (some ⟨g,0,none⟩) A.length c)
 c2:W.cell? ⟨p,2,none⟩=some (.int .i64 P)
 c3:W.cell? ⟨p,3,none⟩=some (.int .i64 E)
 d:Dr A g W
theorem Nb.below{m:Bool}{A:List Nat}{g c:Nat}{P E:Int}{p:Nat}{W W':World}(h:Nb m A g c P E p W)(hb:Below W.heap.size W W'): Nb m A g c P E p W':=
 ⟨Nat.lt_of_lt_of_le h.lt hb.size,(hb.cell (p:=⟨p,0,none⟩) h.lt).trans h.c0,(hb.cell (p:=⟨p,1,none⟩) h.lt).trans h.c1,(hb.cell (p:=⟨p,2,none⟩) h.lt).trans h.c2,(hb.cell (p:=⟨p,3,none⟩) h.lt).trans h.c3,h.d.below hb⟩
structure LS (w0:World) (ma:Bool) (A:List Nat) (ga ca:Nat) (Pa Ea:Int) (mb:Bool) (B:List Nat) (gb cb:Nat) (Pb Eb:Int) (p q:Nat) (W:World):Prop where
 a:Nb ma A ga ca Pa Ea p W
 b:Nb mb B gb cb Pb Eb q W
 l:Below w0.heap.size w0 W
abbrev LsH (w0:World) (ma:Bool) (A:List Nat) (ga ca:Nat) (Pa Ea:Int) (mb:Bool) (B:List Nat) (gb cb:Nat) (Pb Eb:Int) (p q:Nat) (w':World):Prop:=w'.cell? ⟨p,0,none⟩=some (.bool ma)∧w'.cell? ⟨p,1,none⟩=some (.slice (some ⟨ga,0,none⟩) A.length ca)∧w'.cell? ⟨p,2,none⟩=some (.int .i64 Pa)∧w'.cell? ⟨p,3,none⟩=some (.int .i64 Ea)∧w'.cell? ⟨q,0,none⟩=some (.bool mb)∧w'.cell? ⟨q,1,none⟩=some (.slice (some ⟨gb,0,none⟩) B.length cb)∧w'.cell? ⟨q,2,none⟩=some (.int .i64 Pb)∧w'.cell? ⟨q,3,none⟩=some (.int .i64 Eb)∧Hid (LS w0 ma A ga ca Pa Ea mb B gb cb Pb Eb p q w')
theorem ls_below{w0 W:World}{ma:Bool}{A:List Nat}{ga ca:Nat}{Pa Ea:Int}{mb:Bool}{B:List Nat}{gb cb:Nat}{Pb Eb:Int}{p q:Nat}{W':World}(h:Hid (LS w0 ma A ga ca Pa Ea mb B gb cb Pb Eb p q W))(hb:Below W.heap.size W W'): Hid (LS w0 ma A ga ca Pa Ea mb B gb cb Pb Eb p q W'):=hid ⟨h.out.a.below hb,h.out.b.below hb,h.out.l.trans (hb.mono h.out.l.size)⟩
theorem ls_drew{w0 W:World}{ma:Bool}{A:List Nat}{ga ca:Nat}{Pa Ea:Int}{mb:Bool}{B:List Nat}{gb cb:Nat}{Pb Eb:Int}{p q:Nat}(h:Hid (LS w0 ma A ga ca Pa Ea mb B gb cb Pb Eb p q W)): Hid (LS w0 ma A ga ca Pa Ea mb B gb cb Pb Eb p q W.drew):=ls_below h qR.drew
theorem ls_alloc{w0 W:World}{ma:Bool}{A:List Nat}{ga ca:Nat}{Pa Ea:Int}{mb:Bool}{B:List Nat}{gb cb:Nat}{Pb Eb:Int}{p q:Nat}(h:Hid (LS w0 ma A ga ca Pa Ea mb B gb cb Pb Eb p q W))(o:Obj): Hid (LS w0 ma A ga ca Pa Ea mb B gb cb Pb Eb p q (W.alloc o)):=ls_below h (qR.alloc qL o)
theorem ls_held{w0 W:World}{ma:Bool}{A:List Nat}{ga ca:Nat}{Pa Ea:Int}{mb:Bool}{B:List Nat}{gb cb:Nat}{Pb Eb:Int}{p q:Nat}(h:Hid (LS w0 ma A ga ca Pa Ea mb B gb cb Pb Eb p q W)): W.cell? ⟨p,0,none⟩=some (.bool ma)∧W.cell? ⟨p,1,none⟩=some (.slice (some ⟨ga,0,none⟩) A.length ca)∧W.cell? ⟨p,2,none⟩=some (.int .i64 Pa)∧W.cell? ⟨p,3,none⟩=some (.int .i64 Ea)∧W.cell? ⟨q,0,none⟩=some (.bool mb)∧W.cell? ⟨q,1,none⟩=some (.slice (some ⟨gb,0,none⟩) B.length cb)∧W.cell? ⟨q,2,none⟩=some (.int .i64 Pb)∧W.cell? ⟨q,3,none⟩=some (.int .i64 Eb)∧Hid (LS w0 ma A ga ca Pa Ea mb B gb cb Pb Eb p q W):=⟨h.out.a.c0,h.out.a.c1,h.out.a.c2,h.out.a.c3,h.out.b.c0,h.out.b.c1,h.out.b.c2,h.out.b.c3,h⟩
theorem ls_ca{w0 W:World}{ma:Bool}{A:List Nat}{ga ca:Nat}{Pa Ea:Int}{mb:Bool}{B:List Nat}{gb cb:Nat}{Pb Eb:Int}{p q:Nat}{f:Nat}{v:Value}{X:Array Value}(h:∀W,Dr A ga W→Calls prog f X W fun e w'=>e=.returned v∧Below W.heap.size W w')(H:Hid (LS w0 ma A ga ca Pa Ea mb B gb cb Pb Eb p q W)): Calls prog f X W fun e w'=>e=.returned v∧Hid (LS w0 ma A ga ca Pa Ea mb B gb cb Pb Eb p q w'):=(h W H.out.a.d).mono fun e w' k=>⟨k.1,ls_below H k.2⟩
theorem ls_cb{w0 W:World}{ma:Bool}{A:List Nat}{ga ca:Nat}{Pa Ea:Int}{mb:Bool}{B:List Nat}{gb cb:Nat}{Pb Eb:Int}{p q:Nat}{f:Nat}{v:Value}{X:Array Value}(h:∀W,Dr B gb W→Calls prog f X W fun e w'=>e=.returned v∧Below W.heap.size W w')(H:Hid (LS w0 ma A ga ca Pa Ea mb B gb cb Pb Eb p q W)): Calls prog f X W fun e w'=>e=.returned v∧Hid (LS w0 ma A ga ca Pa Ea mb B gb cb Pb Eb p q w'):=(h W H.out.b.d).mono fun e w' k=>⟨k.1,ls_below H k.2⟩
theorem rless_lt(ma:Bool)(A:List Nat)(ga ca:Nat)(Pa Ea:Int)(mb:Bool)(B:List Nat)(gb cb:Nat)(Pb Eb:Int)(w0:World)(h1:Dr A ga w0)(h2:Dr B gb w0)(X Y:Int)(hsa:∀W,Dr A ga W→Calls prog 19 #[.agg #[.bool ma,.slice (some ⟨ga,0,none⟩) A.length ca,.int .i64 Pa,.int .i64 Ea]] W fun e w'=>e=.returned (.int .i64 X)∧Below W.heap.size W w')(hsb:∀W,Dr B gb W→Calls prog 19 #[.agg #[.bool mb,.slice (some ⟨gb,0,none⟩) B.length cb,.int .i64 Pb,.int .i64 Eb]] W fun e w'=>e=.returned (.int .i64 Y)∧Below W.heap.size W w')(hx:X<Y): Calls prog 11 #[.agg #[.bool ma,.slice (some ⟨ga,0,none⟩) A.length ca,.int .i64 Pa,.int .i64 Ea],.agg #[.bool mb,.slice (some ⟨gb,0,none⟩) B.length cb,.int .i64 Pb,.int .i64 Eb]] w0 fun e w'=>e=.returned (.int .i64 (-1))∧Below w0.heap.size w0 w':=by
 have:decide (X<Y)=true:=by rw [decide_eq_true_eq];exact hx
 go_enter func11,ntmps11
 go_wp2_with fail
 have HL:Hid (LS w0 ma A ga ca Pa Ea mb B gb cb Pb Eb w0.heap.size (w0.heap.size+1) ((w0.alloc (.cells #[.bool ma,.slice (some ⟨ga,0,none⟩) A.length ca,.int .i64 Pa,.int .i64 Ea] 37)).alloc (.cells #[.bool mb,.slice (some ⟨gb,0,none⟩) B.length cb,.int .i64 Pb,.int .i64 Eb] 37))):=hid ⟨⟨by simp;omega,by simp [go_sem],by simp [go_sem],by simp [go_sem],by simp [go_sem],h1.below tq4⟩,⟨by simp,by simp [go_sem],by simp [go_sem],by simp [go_sem],by simp [go_sem],h2.below tq4⟩,tq4⟩
 generalize ((w0.alloc (.cells #[.bool ma,.slice (some ⟨ga,0,none⟩) A.length ca,.int .i64 Pa,.int .i64 Ea] 37)).alloc (.cells #[.bool mb,.slice (some ⟨gb,0,none⟩) B.length cb,.int .i64 Pb,.int .i64 Eb] 37))=W at HL ⊢
 generalize w0.heap.size+1=q at HL ⊢
 generalize w0.heap.size=p at HL ⊢
 clear h1 h2
 have hsa:=fun W (H:Hid (LS w0 ma A ga ca Pa Ea mb B gb cb Pb Eb p q W))=>ls_ca hsa H;have hsb:=fun W (H:Hid (LS w0 ma A ga ca Pa Ea mb B gb cb Pb Eb p q W))=>ls_cb hsb H
 go_region_held3 (LsH w0 ma A ga ca Pa Ea mb B gb cb Pb Eb p q) (first|exact ls_held tq8) (first|(go_at_call 19;(with_reducible show Calls prog 19 #[.agg #[.bool ma,.slice (some ⟨ga,0,none⟩) A.length ca,.int .i64 Pa,.int .i64 Ea]] _ _);refine (hsa _ tq8).mono ?_;rintro e w9 ⟨rfl,HL9⟩)|(go_at_call 19;(with_reducible show Calls prog 19 #[.agg #[.bool mb,.slice (some ⟨gb,0,none⟩) B.length cb,.int .i64 Pb,.int .i64 Eb]] _ _);refine (hsb _ tq8).mono ?_;rintro e w9 ⟨rfl,HL9⟩))
 clear HL
 have HL:=HL9
 clear HL9
 go_wp2_with fail
 go_ret
 exact ⟨rfl,HL.out.l⟩
theorem rless_gt(ma:Bool)(A:List Nat)(ga ca:Nat)(Pa Ea:Int)(mb:Bool)(B:List Nat)(gb cb:Nat)(Pb Eb:Int)(w0:World)(h1:Dr A ga w0)(h2:Dr B gb w0)(X Y:Int)(hsa:∀W,Dr A ga W→Calls prog 19 #[.agg #[.bool ma,.slice (some ⟨ga,0,none⟩) A.length ca,.int .i64 Pa,.int .i64 Ea]] W fun e w'=>e=.returned (.int .i64 X)∧Below W.heap.size W w')(hsb:∀W,Dr B gb W→Calls prog 19 #[.agg #[.bool mb,.slice (some ⟨gb,0,none⟩) B.length cb,.int .i64 Pb,.int .i64 Eb]] W fun e w'=>e=.returned (.int .i64 Y)∧Below W.heap.size W w')(hx:Y<X): Calls prog 11 #[.agg #[.bool ma,.slice (some ⟨ga,0,none⟩) A.length ca,.int .i64 Pa,.int .i64 Ea],.agg #[.bool mb,.slice (some ⟨gb,0,none⟩) B.length cb,.int .i64 Pb,.int .i64 Eb]] w0 fun e w'=>e=.returned (.int .i64 (1))∧Below w0.heap.size w0 w':=by
 have:decide (X<Y)=false:=by rw [decide_eq_false_iff_not];omega
 have:decide (Y<X)=true:=by rw [decide_eq_true_eq];exact hx
 go_enter func11,ntmps11
 go_wp2_with fail
 have HL:Hid (LS w0 ma A ga ca Pa Ea mb B gb cb Pb Eb w0.heap.size (w0.heap.size+1) ((w0.alloc (.cells #[.bool ma,.slice (some ⟨ga,0,none⟩) A.length ca,.int .i64 Pa,.int .i64 Ea] 37)).alloc (.cells #[.bool mb,.slice (some ⟨gb,0,none⟩) B.length cb,.int .i64 Pb,.int .i64 Eb] 37))):=hid ⟨⟨by simp;omega,by simp [go_sem],by simp [go_sem],by simp [go_sem],by simp [go_sem],h1.below tq4⟩,⟨by simp,by simp [go_sem],by simp [go_sem],by simp [go_sem],by simp [go_sem],h2.below tq4⟩,tq4⟩
 generalize ((w0.alloc (.cells #[.bool ma,.slice (some ⟨ga,0,none⟩) A.length ca,.int .i64 Pa,.int .i64 Ea] 37)).alloc (.cells #[.bool mb,.slice (some ⟨gb,0,none⟩) B.length cb,.int .i64 Pb,.int .i64 Eb] 37))=W at HL ⊢
 generalize w0.heap.size+1=q at HL ⊢
 generalize w0.heap.size=p at HL ⊢
 clear h1 h2
 have hsa:=fun W (H:Hid (LS w0 ma A ga ca Pa Ea mb B gb cb Pb Eb p q W))=>ls_ca hsa H;have hsb:=fun W (H:Hid (LS w0 ma A ga ca Pa Ea mb B gb cb Pb Eb p q W))=>ls_cb hsb H
 go_region_held3 (LsH w0 ma A ga ca Pa Ea mb B gb cb Pb Eb p q) (first|exact ls_held tq8) (first|(go_at_call 19;(with_reducible show Calls prog 19 #[.agg #[.bool ma,.slice (some ⟨ga,0,none⟩) A.length ca,.int .i64 Pa,.int .i64 Ea]] _ _);refine (hsa _ tq8).mono ?_;rintro e w9 ⟨rfl,HL9⟩)|(go_at_call 19;(with_reducible show Calls prog 19 #[.agg #[.bool mb,.slice (some ⟨gb,0,none⟩) B.length cb,.int .i64 Pb,.int .i64 Eb]] _ _);refine (hsb _ tq8).mono ?_;rintro e w9 ⟨rfl,HL9⟩))
 clear HL
 have HL:=HL9
 clear HL9
 go_wp2_with fail
 go_ret
 exact ⟨rfl,HL.out.l⟩
theorem rless_zz(ma:Bool)(A:List Nat)(ga ca:Nat)(Pa Ea:Int)(mb:Bool)(B:List Nat)(gb cb:Nat)(Pb Eb:Int)(w0:World)(h1:Dr A ga w0)(h2:Dr B gb w0)(X Y:Int)(hsa:∀W,Dr A ga W→Calls prog 19 #[.agg #[.bool ma,.slice (some ⟨ga,0,none⟩) A.length ca,.int .i64 Pa,.int .i64 Ea]] W fun e w'=>e=.returned (.int .i64 X)∧Below W.heap.size W w')(hsb:∀W,Dr B gb W→Calls prog 19 #[.agg #[.bool mb,.slice (some ⟨gb,0,none⟩) B.length cb,.int .i64 Pb,.int .i64 Eb]] W fun e w'=>e=.returned (.int .i64 Y)∧Below W.heap.size W w')(hx:X=0)(hy:Y=0): Calls prog 11 #[.agg #[.bool ma,.slice (some ⟨ga,0,none⟩) A.length ca,.int .i64 Pa,.int .i64 Ea],.agg #[.bool mb,.slice (some ⟨gb,0,none⟩) B.length cb,.int .i64 Pb,.int .i64 Eb]] w0 fun e w'=>e=.returned (.int .i64 (0))∧Below w0.heap.size w0 w':=by
 subst hx
 subst hy
 go_enter func11,ntmps11
 go_wp2_with fail
 have HL:Hid (LS w0 ma A ga ca Pa Ea mb B gb cb Pb Eb w0.heap.size (w0.heap.size+1) ((w0.alloc (.cells #[.bool ma,.slice (some ⟨ga,0,none⟩) A.length ca,.int .i64 Pa,.int .i64 Ea] 37)).alloc (.cells #[.bool mb,.slice (some ⟨gb,0,none⟩) B.length cb,.int .i64 Pb,.int .i64 Eb] 37))):=hid ⟨⟨by simp;omega,by simp [go_sem],by simp [go_sem],by simp [go_sem],by simp [go_sem],h1.below tq4⟩,⟨by simp,by simp [go_sem],by simp [go_sem],by simp [go_sem],by simp [go_sem],h2.below tq4⟩,tq4⟩
 generalize ((w0.alloc (.cells #[.bool ma,.slice (some ⟨ga,0,none⟩) A.length ca,.int .i64 Pa,.int .i64 Ea] 37)).alloc (.cells #[.bool mb,.slice (some ⟨gb,0,none⟩) B.length cb,.int .i64 Pb,.int .i64 Eb] 37))=W at HL ⊢
 generalize w0.heap.size+1=q at HL ⊢
 generalize w0.heap.size=p at HL ⊢
 clear h1 h2
 have hsa:=fun W (H:Hid (LS w0 ma A ga ca Pa Ea mb B gb cb Pb Eb p q W))=>ls_ca hsa H;have hsb:=fun W (H:Hid (LS w0 ma A ga ca Pa Ea mb B gb cb Pb Eb p q W))=>ls_cb hsb H
 go_region_held3 (LsH w0 ma A ga ca Pa Ea mb B gb cb Pb Eb p q) (first|exact ls_held tq8) (first|(go_at_call 19;(with_reducible show Calls prog 19 #[.agg #[.bool ma,.slice (some ⟨ga,0,none⟩) A.length ca,.int .i64 Pa,.int .i64 Ea]] _ _);refine (hsa _ tq8).mono ?_;rintro e w9 ⟨rfl,HL9⟩)|(go_at_call 19;(with_reducible show Calls prog 19 #[.agg #[.bool mb,.slice (some ⟨gb,0,none⟩) B.length cb,.int .i64 Pb,.int .i64 Eb]] _ _);refine (hsb _ tq8).mono ?_;rintro e w9 ⟨rfl,HL9⟩))
 clear HL
 have HL:=HL9
 clear HL9
 go_wp2_with fail
 go_ret
 exact ⟨rfl,HL.out.l⟩
theorem rside_bd(m:Bool)(A:List Nat): -1≤rside m A∧rside m A≤1:=by unfold rside;split <;> (try split) <;> omega
theorem rside_nz{m:Bool}{A:List Nat}(h:rside m A≠0): shut A≠[]:=fun e=>h (by simp [rside,e])
theorem rless_tl(ma:Bool)(A:List Nat)(ga ca:Nat)(Pa Ea:Int)(mb:Bool)(B:List Nat)(gb cb:Nat)(Pb Eb:Int)(w0:World)(h1:Dr A ga w0)(h2:Dr B gb w0)(X Y:Int)(hsa:∀W,Dr A ga W→Calls prog 19 #[.agg #[.bool ma,.slice (some ⟨ga,0,none⟩) A.length ca,.int .i64 Pa,.int .i64 Ea]] W fun e w'=>e=.returned (.int .i64 X)∧Below W.heap.size W w')(hsb:∀W,Dr B gb W→Calls prog 19 #[.agg #[.bool mb,.slice (some ⟨gb,0,none⟩) B.length cb,.int .i64 Pb,.int .i64 Eb]] W fun e w'=>e=.returned (.int .i64 Y)∧Below W.heap.size W w')(Ta Tb:Int)(hta:∀W,Dr A ga W→Calls prog 20 #[.agg #[.bool ma,.slice (some ⟨ga,0,none⟩) A.length ca,.int .i64 Pa,.int .i64 Ea]] W fun e w'=>e=.returned (.int .i64 Ta)∧Below W.heap.size W w')(htb:∀W,Dr B gb W→Calls prog 20 #[.agg #[.bool mb,.slice (some ⟨gb,0,none⟩) B.length cb,.int .i64 Pb,.int .i64 Eb]] W fun e w'=>e=.returned (.int .i64 Tb)∧Below W.heap.size W w')(hx:X=Y)(hz:X≠0)(hbd:-1≤X∧X≤1)(ht:Ta<Tb): Calls prog 11 #[.agg #[.bool ma,.slice (some ⟨ga,0,none⟩) A.length ca,.int .i64 Pa,.int .i64 Ea],.agg #[.bool mb,.slice (some ⟨gb,0,none⟩) B.length cb,.int .i64 Pb,.int .i64 Eb]] w0 fun e w'=>e=.returned (.int .i64 (-X))∧Below w0.heap.size w0 w':=by
 subst hx
 have:decide (X<X)=false:=by simp
 have:(X==0)=false:=by rw [beq_eq_false_iff_ne];exact hz
 have:IntKind.i64.wrap (-X)=-X:=IntWalk.i64_in _ oM
 have:(Ta != Tb)=true:=by rw [bne_iff_ne];omega
 have:decide (Ta<Tb)=true:=by rw [decide_eq_true_eq];exact ht
 clear hz ht hbd
 go_enter func11,ntmps11
 go_wp2_with fail
 have HL:Hid (LS w0 ma A ga ca Pa Ea mb B gb cb Pb Eb w0.heap.size (w0.heap.size+1) ((w0.alloc (.cells #[.bool ma,.slice (some ⟨ga,0,none⟩) A.length ca,.int .i64 Pa,.int .i64 Ea] 37)).alloc (.cells #[.bool mb,.slice (some ⟨gb,0,none⟩) B.length cb,.int .i64 Pb,.int .i64 Eb] 37))):=hid ⟨⟨by simp;omega,by simp [go_sem],by simp [go_sem],by simp [go_sem],by simp [go_sem],h1.below tq4⟩,⟨by simp,by simp [go_sem],by simp [go_sem],by simp [go_sem],by simp [go_sem],h2.below tq4⟩,tq4⟩
 generalize ((w0.alloc (.cells #[.bool ma,.slice (some ⟨ga,0,none⟩) A.length ca,.int .i64 Pa,.int .i64 Ea] 37)).alloc (.cells #[.bool mb,.slice (some ⟨gb,0,none⟩) B.length cb,.int .i64 Pb,.int .i64 Eb] 37))=W at HL ⊢
 generalize w0.heap.size+1=q at HL ⊢
 generalize w0.heap.size=p at HL ⊢
 clear h1 h2
 have hsa:=fun W (H:Hid (LS w0 ma A ga ca Pa Ea mb B gb cb Pb Eb p q W))=>ls_ca hsa H;have hsb:=fun W (H:Hid (LS w0 ma A ga ca Pa Ea mb B gb cb Pb Eb p q W))=>ls_cb hsb H
 go_region_held3 (LsH w0 ma A ga ca Pa Ea mb B gb cb Pb Eb p q) (first|exact ls_held tq8) (first|(go_at_call 19;(with_reducible show Calls prog 19 #[.agg #[.bool ma,.slice (some ⟨ga,0,none⟩) A.length ca,.int .i64 Pa,.int .i64 Ea]] _ _);refine (hsa _ tq8).mono ?_;rintro e w9 ⟨rfl,HL9⟩)|(go_at_call 19;(with_reducible show Calls prog 19 #[.agg #[.bool mb,.slice (some ⟨gb,0,none⟩) B.length cb,.int .i64 Pb,.int .i64 Eb]] _ _);refine (hsb _ tq8).mono ?_;rintro e w9 ⟨rfl,HL9⟩))
 clear HL
 have HL:=HL9
 clear HL9
 have hta:=fun W (H:Hid (LS w0 ma A ga ca Pa Ea mb B gb cb Pb Eb p q W))=>ls_ca hta H;have htb:=fun W (H:Hid (LS w0 ma A ga ca Pa Ea mb B gb cb Pb Eb p q W))=>ls_cb htb H
 go_wp2_with fail
 go_region_held3 (LsH w0 ma A ga ca Pa Ea mb B gb cb Pb Eb p q) (first|exact ls_held tq8) (first|(go_at_call 20;(with_reducible show Calls prog 20 #[.agg #[.bool ma,.slice (some ⟨ga,0,none⟩) A.length ca,.int .i64 Pa,.int .i64 Ea]] _ _);refine (hta _ tq8).mono ?_;rintro e w9 ⟨rfl,HL9⟩)|(go_at_call 20;(with_reducible show Calls prog 20 #[.agg #[.bool mb,.slice (some ⟨gb,0,none⟩) B.length cb,.int .i64 Pb,.int .i64 Eb]] _ _);refine (htb _ tq8).mono ?_;rintro e w9 ⟨rfl,HL9⟩))
 clear HL;have HL:=HL9;clear HL9
 go_wp2_with fail
 go_region_held3 (LsH w0 ma A ga ca Pa Ea mb B gb cb Pb Eb p q) (first|exact ls_held tq8) (first|(go_at_call 20;(with_reducible show Calls prog 20 #[.agg #[.bool ma,.slice (some ⟨ga,0,none⟩) A.length ca,.int .i64 Pa,.int .i64 Ea]] _ _);refine (hta _ tq8).mono ?_;rintro e w9 ⟨rfl,HL9⟩)|(go_at_call 20;(with_reducible show Calls prog 20 #[.agg #[.bool mb,.slice (some ⟨gb,0,none⟩) B.length cb,.int .i64 Pb,.int .i64 Eb]] _ _);refine (htb _ tq8).mono ?_;rintro e w9 ⟨rfl,HL9⟩))
 clear HL;have HL:=HL9;clear HL9
 go_wp2_with fail
 go_ret
 exact ⟨rfl,HL.out.l⟩
theorem rless_tg(ma:Bool)(A:List Nat)(ga ca:Nat)(Pa Ea:Int)(mb:Bool)(B:List Nat)(gb cb:Nat)(Pb Eb:Int)(w0:World)(h1:Dr A ga w0)(h2:Dr B gb w0)(X Y:Int)(hsa:∀W,Dr A ga W→Calls prog 19 #[.agg #[.bool ma,.slice (some ⟨ga,0,none⟩) A.length ca,.int .i64 Pa,.int .i64 Ea]] W fun e w'=>e=.returned (.int .i64 X)∧Below W.heap.size W w')(hsb:∀W,Dr B gb W→Calls prog 19 #[.agg #[.bool mb,.slice (some ⟨gb,0,none⟩) B.length cb,.int .i64 Pb,.int .i64 Eb]] W fun e w'=>e=.returned (.int .i64 Y)∧Below W.heap.size W w')(Ta Tb:Int)(hta:∀W,Dr A ga W→Calls prog 20 #[.agg #[.bool ma,.slice (some ⟨ga,0,none⟩) A.length ca,.int .i64 Pa,.int .i64 Ea]] W fun e w'=>e=.returned (.int .i64 Ta)∧Below W.heap.size W w')(htb:∀W,Dr B gb W→Calls prog 20 #[.agg #[.bool mb,.slice (some ⟨gb,0,none⟩) B.length cb,.int .i64 Pb,.int .i64 Eb]] W fun e w'=>e=.returned (.int .i64 Tb)∧Below W.heap.size W w')(hx:X=Y)(hz:X≠0)(hbd:-1≤X∧X≤1)(ht:Tb<Ta): Calls prog 11 #[.agg #[.bool ma,.slice (some ⟨ga,0,none⟩) A.length ca,.int .i64 Pa,.int .i64 Ea],.agg #[.bool mb,.slice (some ⟨gb,0,none⟩) B.length cb,.int .i64 Pb,.int .i64 Eb]] w0 fun e w'=>e=.returned (.int .i64 (X))∧Below w0.heap.size w0 w':=by
 subst hx
 have:decide (X<X)=false:=by simp
 have:(X==0)=false:=by rw [beq_eq_false_iff_ne];exact hz
 have:IntKind.i64.wrap (-X)=-X:=IntWalk.i64_in _ oM
 have:(Ta != Tb)=true:=by rw [bne_iff_ne];omega
 have:decide (Ta<Tb)=false:=by rw [decide_eq_false_iff_not];omega
 clear hz ht hbd
 go_enter func11,ntmps11
 go_wp2_with fail
 have HL:Hid (LS w0 ma A ga ca Pa Ea mb B gb cb Pb Eb w0.heap.size (w0.heap.size+1) ((w0.alloc (.cells #[.bool ma,.slice (some ⟨ga,0,none⟩) A.length ca,.int .i64 Pa,.int .i64 Ea] 37)).alloc (.cells #[.bool mb,.slice (some ⟨gb,0,none⟩) B.length cb,.int .i64 Pb,.int .i64 Eb] 37))):=hid ⟨⟨by simp;omega,by simp [go_sem],by simp [go_sem],by simp [go_sem],by simp [go_sem],h1.below tq4⟩,⟨by simp,by simp [go_sem],by simp [go_sem],by simp [go_sem],by simp [go_sem],h2.below tq4⟩,tq4⟩
 generalize ((w0.alloc (.cells #[.bool ma,.slice (some ⟨ga,0,none⟩) A.length ca,.int .i64 Pa,.int .i64 Ea] 37)).alloc (.cells #[.bool mb,.slice (some ⟨gb,0,none⟩) B.length cb,.int .i64 Pb,.int .i64 Eb] 37))=W at HL ⊢
 generalize w0.heap.size+1=q at HL ⊢
 generalize w0.heap.size=p at HL ⊢
 clear h1 h2
 have hsa:=fun W (H:Hid (LS w0 ma A ga ca Pa Ea mb B gb cb Pb Eb p q W))=>ls_ca hsa H;have hsb:=fun W (H:Hid (LS w0 ma A ga ca Pa Ea mb B gb cb Pb Eb p q W))=>ls_cb hsb H
 go_region_held3 (LsH w0 ma A ga ca Pa Ea mb B gb cb Pb Eb p q) (first|exact ls_held tq8) (first|(go_at_call 19;(with_reducible show Calls prog 19 #[.agg #[.bool ma,.slice (some ⟨ga,0,none⟩) A.length ca,.int .i64 Pa,.int .i64 Ea]] _ _);refine (hsa _ tq8).mono ?_;rintro e w9 ⟨rfl,HL9⟩)|(go_at_call 19;(with_reducible show Calls prog 19 #[.agg #[.bool mb,.slice (some ⟨gb,0,none⟩) B.length cb,.int .i64 Pb,.int .i64 Eb]] _ _);refine (hsb _ tq8).mono ?_;rintro e w9 ⟨rfl,HL9⟩))
 clear HL
 have HL:=HL9
 clear HL9
 have hta:=fun W (H:Hid (LS w0 ma A ga ca Pa Ea mb B gb cb Pb Eb p q W))=>ls_ca hta H;have htb:=fun W (H:Hid (LS w0 ma A ga ca Pa Ea mb B gb cb Pb Eb p q W))=>ls_cb htb H
 go_wp2_with fail
 go_region_held3 (LsH w0 ma A ga ca Pa Ea mb B gb cb Pb Eb p q) (first|exact ls_held tq8) (first|(go_at_call 20;(with_reducible show Calls prog 20 #[.agg #[.bool ma,.slice (some ⟨ga,0,none⟩) A.length ca,.int .i64 Pa,.int .i64 Ea]] _ _);refine (hta _ tq8).mono ?_;rintro e w9 ⟨rfl,HL9⟩)|(go_at_call 20;(with_reducible show Calls prog 20 #[.agg #[.bool mb,.slice (some ⟨gb,0,none⟩) B.length cb,.int .i64 Pb,.int .i64 Eb]] _ _);refine (htb _ tq8).mono ?_;rintro e w9 ⟨rfl,HL9⟩))
 clear HL;have HL:=HL9;clear HL9
 go_wp2_with fail
 go_region_held3 (LsH w0 ma A ga ca Pa Ea mb B gb cb Pb Eb p q) (first|exact ls_held tq8) (first|(go_at_call 20;(with_reducible show Calls prog 20 #[.agg #[.bool ma,.slice (some ⟨ga,0,none⟩) A.length ca,.int .i64 Pa,.int .i64 Ea]] _ _);refine (hta _ tq8).mono ?_;rintro e w9 ⟨rfl,HL9⟩)|(go_at_call 20;(with_reducible show Calls prog 20 #[.agg #[.bool mb,.slice (some ⟨gb,0,none⟩) B.length cb,.int .i64 Pb,.int .i64 Eb]] _ _);refine (htb _ tq8).mono ?_;rintro e w9 ⟨rfl,HL9⟩))
 clear HL;have HL:=HL9;clear HL9
 go_wp2_with fail
 go_ret
 exact ⟨rfl,HL.out.l⟩
def lp (X:Int) (fa fb:Int→Nat):Nat→Int→Int
 | 0,_=>0
 | n+1,k=>if fa k<fb k then -X else if fb k<fa k then X else lp X fa fb n (k-1)
theorem rless_lp(ma:Bool)(A:List Nat)(ga ca:Nat)(Pa Ea:Int)(mb:Bool)(B:List Nat)(gb cb:Nat)(Pb Eb:Int)(w0:World)(h1:Dr A ga w0)(h2:Dr B gb w0)(X Y:Int)(hsa:∀W,Dr A ga W→Calls prog 19 #[.agg #[.bool ma,.slice (some ⟨ga,0,none⟩) A.length ca,.int .i64 Pa,.int .i64 Ea]] W fun e w'=>e=.returned (.int .i64 X)∧Below W.heap.size W w')(hsb:∀W,Dr B gb W→Calls prog 19 #[.agg #[.bool mb,.slice (some ⟨gb,0,none⟩) B.length cb,.int .i64 Pb,.int .i64 Eb]] W fun e w'=>e=.returned (.int .i64 Y)∧Below W.heap.size W w')(Ta Tb:Int)(hta:∀W,Dr A ga W→Calls prog 20 #[.agg #[.bool ma,.slice (some ⟨ga,0,none⟩) A.length ca,.int .i64 Pa,.int .i64 Ea]] W fun e w'=>e=.returned (.int .i64 Ta)∧Below W.heap.size W w')(htb:∀W,Dr B gb W→Calls prog 20 #[.agg #[.bool mb,.slice (some ⟨gb,0,none⟩) B.length cb,.int .i64 Pb,.int .i64 Eb]] W fun e w'=>e=.returned (.int .i64 Tb)∧Below W.heap.size W w')(La Lb:Int)(hla:∀W,Dr A ga W→Calls prog 21 #[.agg #[.bool ma,.slice (some ⟨ga,0,none⟩) A.length ca,.int .i64 Pa,.int .i64 Ea]] W fun e w'=>e=.returned (.int .i64 La)∧Below W.heap.size W w')(hlb:∀W,Dr B gb W→Calls prog 21 #[.agg #[.bool mb,.slice (some ⟨gb,0,none⟩) B.length cb,.int .i64 Pb,.int .i64 Eb]] W fun e w'=>e=.returned (.int .i64 Lb)∧Below W.heap.size W w')(fa fb:Int→Nat)(haa:∀k,-4000000000000≤k→k≤4000000000000→∀W,Dr A ga W→Calls prog 22 #[.agg #[.bool ma,.slice (some ⟨ga,0,none⟩) A.length ca,.int .i64 Pa,.int .i64 Ea],.int .i64 k] W fun e w'=>e=.returned (.int .i64 (fa k:Nat))∧Below W.heap.size W w')(hab:∀k,-4000000000000≤k→k≤4000000000000→∀W,Dr B gb W→Calls prog 22 #[.agg #[.bool mb,.slice (some ⟨gb,0,none⟩) B.length cb,.int .i64 Pb,.int .i64 Eb],.int .i64 k] W fun e w'=>e=.returned (.int .i64 (fb k:Nat))∧Below W.heap.size W w')(hx:X=Y)(hz:X≠0)(hbd:-1≤X∧X≤1)(ht:Ta=Tb)(M:Int)(hM:M=if Lb<La then Lb else La)(hM1:-3000000000000≤M)(hT1:Ta≤3000000000000)(hT2:-4000000000000≤Ta)(R:Int)(hR:Hid (lp X fa fb (Ta-M+1).toNat Ta=R)): Calls prog 11 #[.agg #[.bool ma,.slice (some ⟨ga,0,none⟩) A.length ca,.int .i64 Pa,.int .i64 Ea],.agg #[.bool mb,.slice (some ⟨gb,0,none⟩) B.length cb,.int .i64 Pb,.int .i64 Eb]] w0 fun e w'=>e=.returned (.int .i64 (R))∧Below w0.heap.size w0 w':=by
 subst hx
 subst ht
 have:decide (X<X)=false:=by simp
 have:(X==0)=false:=by rw [beq_eq_false_iff_ne];exact hz
 have:IntKind.i64.wrap (-X)=-X:=IntWalk.i64_in _ oM
 have:(Ta != Ta)=false:=by simp
 clear hz hbd
 go_enter func11,ntmps11
 go_wp2_with fail
 have HL:Hid (LS w0 ma A ga ca Pa Ea mb B gb cb Pb Eb w0.heap.size (w0.heap.size+1) ((w0.alloc (.cells #[.bool ma,.slice (some ⟨ga,0,none⟩) A.length ca,.int .i64 Pa,.int .i64 Ea] 37)).alloc (.cells #[.bool mb,.slice (some ⟨gb,0,none⟩) B.length cb,.int .i64 Pb,.int .i64 Eb] 37))):=hid ⟨⟨by simp;omega,by simp [go_sem],by simp [go_sem],by simp [go_sem],by simp [go_sem],h1.below tq4⟩,⟨by simp,by simp [go_sem],by simp [go_sem],by simp [go_sem],by simp [go_sem],h2.below tq4⟩,tq4⟩
 generalize ((w0.alloc (.cells #[.bool ma,.slice (some ⟨ga,0,none⟩) A.length ca,.int .i64 Pa,.int .i64 Ea] 37)).alloc (.cells #[.bool mb,.slice (some ⟨gb,0,none⟩) B.length cb,.int .i64 Pb,.int .i64 Eb] 37))=W at HL ⊢
 generalize w0.heap.size+1=q at HL ⊢
 generalize w0.heap.size=p at HL ⊢
 clear h1 h2
 have hsa:=fun W (H:Hid (LS w0 ma A ga ca Pa Ea mb B gb cb Pb Eb p q W))=>ls_ca hsa H;have hsb:=fun W (H:Hid (LS w0 ma A ga ca Pa Ea mb B gb cb Pb Eb p q W))=>ls_cb hsb H
 go_region_held3 (LsH w0 ma A ga ca Pa Ea mb B gb cb Pb Eb p q) (first|exact ls_held tq8) (first|(go_at_call 19;(with_reducible show Calls prog 19 #[.agg #[.bool ma,.slice (some ⟨ga,0,none⟩) A.length ca,.int .i64 Pa,.int .i64 Ea]] _ _);refine (hsa _ tq8).mono ?_;rintro e w9 ⟨rfl,HL9⟩)|(go_at_call 19;(with_reducible show Calls prog 19 #[.agg #[.bool mb,.slice (some ⟨gb,0,none⟩) B.length cb,.int .i64 Pb,.int .i64 Eb]] _ _);refine (hsb _ tq8).mono ?_;rintro e w9 ⟨rfl,HL9⟩))
 clear HL
 have HL:=HL9
 clear HL9
 clear hsa hsb
 have hta:=fun W (H:Hid (LS w0 ma A ga ca Pa Ea mb B gb cb Pb Eb p q W))=>ls_ca hta H;have htb:=fun W (H:Hid (LS w0 ma A ga ca Pa Ea mb B gb cb Pb Eb p q W))=>ls_cb htb H
 have hla:=fun W (H:Hid (LS w0 ma A ga ca Pa Ea mb B gb cb Pb Eb p q W))=>ls_ca hla H;have hlb:=fun W (H:Hid (LS w0 ma A ga ca Pa Ea mb B gb cb Pb Eb p q W))=>ls_cb hlb H
 go_wp2_with fail
 go_region_held3 (LsH w0 ma A ga ca Pa Ea mb B gb cb Pb Eb p q) (first|exact ls_held tq8) (first|(go_at_call 20;(with_reducible show Calls prog 20 #[.agg #[.bool ma,.slice (some ⟨ga,0,none⟩) A.length ca,.int .i64 Pa,.int .i64 Ea]] _ _);refine (hta _ tq8).mono ?_;rintro e w9 ⟨rfl,HL9⟩)|(go_at_call 20;(with_reducible show Calls prog 20 #[.agg #[.bool mb,.slice (some ⟨gb,0,none⟩) B.length cb,.int .i64 Pb,.int .i64 Eb]] _ _);refine (htb _ tq8).mono ?_;rintro e w9 ⟨rfl,HL9⟩))
 clear HL;have HL:=HL9;clear HL9
 go_wp2_with fail
 refine (hta _ HL).mono ?_;rintro e w9 ⟨rfl,HL9⟩
 clear HL;have HL:=HL9;clear HL9
 clear hta htb
 go_wp2_with fail
 have hT0:Ta+1=M+((Ta-M+1).toNat:Int)∨(Ta<M∧(Ta-M+1).toNat=0):=oM
 have hMn:=hM.symm
 clear hM
 go_loopg [7] (Ta-M+1).toNat (fun mm v wr=>∃(n:Nat) (k:Int),v=.int .i64 k∧n=mm∧(k+1=M+(n:Int)∨(k<M∧n=0))∧k≤3000000000000∧-4000000000000≤k∧Hid (lp X fa fb n k=R)∧Hid (LS w0 ma A ga ca Pa Ea mb B gb cb Pb Eb p q wr))
 case atStart=>exact ⟨_,_,rfl,rfl,hT0,hT1,hT2,hR,HL⟩
 case round=>
  clear HL hT0 hT1 hT2 hR
  obtain ⟨n,k,rfl,hmm,hk,hk2',hk1,hR,HL⟩ :=hrel
  subst hmm
  have hk2:k≤4000000000000:=oM
  have:IntKind.i64.wrap (k-1)=k-1:=IntWalk.i64_in _ oM
  cases n with
  | zero=>
   have e0:R=0:=hR.out.symm
   subst e0
   have e1:decide (M≤k)=false:=by rw [decide_eq_false_iff_not];simp at hk;omega
   go_wp2_with fail
   go_region_held3 (LsH w0 ma A ga ca Pa Ea mb B gb cb Pb Eb p q) (first|exact ls_held tq8) (first|(go_at_call 21;(with_reducible show Calls prog 21 #[.agg #[.bool ma,.slice (some ⟨ga,0,none⟩) A.length ca,.int .i64 Pa,.int .i64 Ea]] _ _);refine (hla _ tq8).mono ?_;rintro e w9 ⟨rfl,HL9⟩)|(go_at_call 21;(with_reducible show Calls prog 21 #[.agg #[.bool mb,.slice (some ⟨gb,0,none⟩) B.length cb,.int .i64 Pb,.int .i64 Eb]] _ _);refine (hlb _ tq8).mono ?_;rintro e w9 ⟨rfl,HL9⟩))
   clear HL;have HL:=HL9;clear HL9
   go_wp2_with fail
   go_ret
   exact ⟨rfl,HL.out.l⟩
  | succ n=>
   have e1:decide (M≤k)=true:=by rw [decide_eq_true_eq];omega
   have hk3:(k-1+1=M+(n:Int)∨(k-1<M∧n=0)):=oM
   have hk4:-4000000000000≤k-1:=oM
   have hk5:k-1≤3000000000000:=oM
   obtain ⟨x,hx⟩:∃x,fa k=x:=⟨_,rfl⟩
   obtain ⟨y,hy⟩:∃y,fb k=y:=⟨_,rfl⟩
   have hR2:Hid ((if x<y then -X else if y<x then X else lp X fa fb n (k-1))=R):=hid (by rw [←hx,←hy];exact hR.out)
   have haa':=haa k hk1 hk2
   have hab':=hab k hk1 hk2
   rw [hx] at haa'
   rw [hy] at hab'
   have haa':=fun W (H:Hid (LS w0 ma A ga ca Pa Ea mb B gb cb Pb Eb p q W))=>ls_ca haa' H;have hab':=fun W (H:Hid (LS w0 ma A ga ca Pa Ea mb B gb cb Pb Eb p q W))=>ls_cb hab' H
   clear hR hx hy
   go_wp2_with fail
   go_region_held3 (LsH w0 ma A ga ca Pa Ea mb B gb cb Pb Eb p q) (first|exact ls_held tq8) (first|(go_at_call 21;(with_reducible show Calls prog 21 #[.agg #[.bool ma,.slice (some ⟨ga,0,none⟩) A.length ca,.int .i64 Pa,.int .i64 Ea]] _ _);refine (hla _ tq8).mono ?_;rintro e w9 ⟨rfl,HL9⟩)|(go_at_call 21;(with_reducible show Calls prog 21 #[.agg #[.bool mb,.slice (some ⟨gb,0,none⟩) B.length cb,.int .i64 Pb,.int .i64 Eb]] _ _);refine (hlb _ tq8).mono ?_;rintro e w9 ⟨rfl,HL9⟩))
   clear HL;have HL:=HL9;clear HL9
   by_cases c1:x<y
   ·have f1:decide (x<y)=true:=by rw [decide_eq_true_eq];omega
    have e0:R=-X:=by rw [←hR2.out,if_pos c1]
    subst e0
    clear c1 hR2
    go_wp2_with fail
    go_region_held3 (LsH w0 ma A ga ca Pa Ea mb B gb cb Pb Eb p q) (first|exact ls_held tq8) (first|(go_at_call 22;(with_reducible show Calls prog 22 #[.agg #[.bool ma,.slice (some ⟨ga,0,none⟩) A.length ca,.int .i64 Pa,.int .i64 Ea],_] _ _);refine (haa' _ tq8).mono ?_;rintro e w9 ⟨rfl,HL9⟩)|(go_at_call 22;(with_reducible show Calls prog 22 #[.agg #[.bool mb,.slice (some ⟨gb,0,none⟩) B.length cb,.int .i64 Pb,.int .i64 Eb],_] _ _);refine (hab' _ tq8).mono ?_;rintro e w9 ⟨rfl,HL9⟩))
    clear HL;have HL:=HL9;clear HL9
    go_wp2_with fail
    go_ret
    exact ⟨rfl,HL.out.l⟩
   ·have f1:decide (x<y)=false:=by rw [decide_eq_false_iff_not];omega
    go_wp2_with fail
    go_region_held3 (LsH w0 ma A ga ca Pa Ea mb B gb cb Pb Eb p q) (first|exact ls_held tq8) (first|(go_at_call 22;(with_reducible show Calls prog 22 #[.agg #[.bool ma,.slice (some ⟨ga,0,none⟩) A.length ca,.int .i64 Pa,.int .i64 Ea],_] _ _);refine (haa' _ tq8).mono ?_;rintro e w9 ⟨rfl,HL9⟩)|(go_at_call 22;(with_reducible show Calls prog 22 #[.agg #[.bool mb,.slice (some ⟨gb,0,none⟩) B.length cb,.int .i64 Pb,.int .i64 Eb],_] _ _);refine (hab' _ tq8).mono ?_;rintro e w9 ⟨rfl,HL9⟩))
    clear HL;have HL:=HL9;clear HL9
    by_cases c2:y<x
    ·have f2:decide (y<x)=true:=by rw [decide_eq_true_eq];omega
     have e0:R=X:=by rw [←hR2.out,if_neg c1,if_pos c2]
     subst e0
     clear c1 c2 hR2
     go_wp2_with fail
     go_region_held3 (LsH w0 ma A ga ca Pa Ea mb B gb cb Pb Eb p q) (first|exact ls_held tq8) (first|(go_at_call 22;(with_reducible show Calls prog 22 #[.agg #[.bool ma,.slice (some ⟨ga,0,none⟩) A.length ca,.int .i64 Pa,.int .i64 Ea],_] _ _);refine (haa' _ tq8).mono ?_;rintro e w9 ⟨rfl,HL9⟩)|(go_at_call 22;(with_reducible show Calls prog 22 #[.agg #[.bool mb,.slice (some ⟨gb,0,none⟩) B.length cb,.int .i64 Pb,.int .i64 Eb],_] _ _);refine (hab' _ tq8).mono ?_;rintro e w9 ⟨rfl,HL9⟩))
     clear HL;have HL:=HL9;clear HL9
     go_wp2_with fail
     go_ret
     exact ⟨rfl,HL.out.l⟩
    ·have f2:decide (y<x)=false:=by rw [decide_eq_false_iff_not];omega
     have hR3:Hid (lp X fa fb n (k-1)=R):=hid (by rw [←hR2.out,if_neg c1,if_neg c2])
     clear c1 c2 hR2
     go_wp2_with fail
     go_region_held3 (LsH w0 ma A ga ca Pa Ea mb B gb cb Pb Eb p q) (first|exact ls_held tq8) (first|(go_at_call 22;(with_reducible show Calls prog 22 #[.agg #[.bool ma,.slice (some ⟨ga,0,none⟩) A.length ca,.int .i64 Pa,.int .i64 Ea],_] _ _);refine (haa' _ tq8).mono ?_;rintro e w9 ⟨rfl,HL9⟩)|(go_at_call 22;(with_reducible show Calls prog 22 #[.agg #[.bool mb,.slice (some ⟨gb,0,none⟩) B.length cb,.int .i64 Pb,.int .i64 Eb],_] _ _);refine (hab' _ tq8).mono ?_;rintro e w9 ⟨rfl,HL9⟩))
     clear HL;have HL:=HL9;clear HL9
     go_wp2_with fail
     go_roundg n
     case measure=>go_light;omega
     case rel=>go_light;exact ⟨n,k-1,by go_num,rfl,hk3,hk5,hk4,hR3,HL⟩
theorem lp_rloop(x:Int)(A:List Nat)(Pa:Int)(B:List Nat)(Pb:Int)(n:Nat): ∀k,lp x (rat A Pa) (rat B Pb) n k=rloop x A Pa B Pb n k:=by
 induction n with
 | zero=>intro k;rfl
 | succ n ih=>intro k;simp only [lp,rloop,ih]
theorem rtop_bd(A:List Nat)(P:Int): P-1-A.length≤rtop A P∧rtop A P≤P-1:=by
 have:=lead_le A
 unfold rtop;omega
theorem rlow_bd(A:List Nat)(P:Int): P-A.length≤rlow A P∧rlow A P≤P:=by
 have:=shut_len A
 unfold rlow;omega
theorem rless_any(ma:Bool)(A:List Nat)(ga ca:Nat)(Pa Ea:Int)(mb:Bool)(B:List Nat)(gb cb:Nat)(Pb Eb:Int)(hA:A.length≤1000)(hca:A.length≤ca)(hPa:0≤Pa∧Pa≤1000)(hEa:-2000000000000≤Ea∧Ea≤2000000000000)(hB:B.length≤1000)(hcb:B.length≤cb)(hPb:0≤Pb∧Pb≤1000)(hEb:-2000000000000≤Eb∧Eb≤2000000000000)(w0:World)(h1:Dr A ga w0)(h2:Dr B gb w0): Calls prog 11 #[.agg #[.bool ma,.slice (some ⟨ga,0,none⟩) A.length ca,.int .i64 Pa,.int .i64 Ea],.agg #[.bool mb,.slice (some ⟨gb,0,none⟩) B.length cb,.int .i64 Pb,.int .i64 Eb]] w0 fun e w'=>e=.returned (.int .i64 (rless ma A (Pa+Ea) mb B (Pb+Eb)))∧Below w0.heap.size w0 w':=by
 have hsa:=fun W h=>rside_any ma A ga ca Pa Ea hA hca W h
 have hsb:=fun W h=>rside_any mb B gb cb Pb Eb hB hcb W h
 unfold rless
 by_cases c1:rside ma A<rside mb B
 ·rw [if_pos c1]
  exact rless_lt ma A ga ca Pa Ea mb B gb cb Pb Eb w0 h1 h2 _ _ hsa hsb c1
 rw [if_neg c1]
 by_cases c2:rside mb B<rside ma A
 ·rw [if_pos c2]
  exact rless_gt ma A ga ca Pa Ea mb B gb cb Pb Eb w0 h1 h2 _ _ hsa hsb c2
 rw [if_neg c2]
 by_cases c3:rside ma A=0
 ·rw [if_pos c3]
  exact rless_zz ma A ga ca Pa Ea mb B gb cb Pb Eb w0 h1 h2 _ _ hsa hsb c3 oM
 rw [if_neg c3]
 have hta:=fun W h=>rtop_any ma A ga ca Pa Ea hA hca hPa hEa (rside_nz c3) W h
 have htb:=fun W h=>rtop_any mb B gb cb Pb Eb hB hcb hPb hEb (rside_nz (m:=mb) oM) W h
 have hla:=fun W h=>rlow_any ma A ga ca Pa Ea hA hca hPa hEa (rside_nz c3) W h
 have hlb:=fun W h=>rlow_any mb B gb cb Pb Eb hB hcb hPb hEb (rside_nz (m:=mb) oM) W h
 have bd:=rside_bd ma A
 by_cases c4:rtop A (Pa+Ea)=rtop B (Pb+Eb)
 ·rw [if_pos c4]
  have q1:=rtop_bd A (Pa+Ea)
  have q2:=rlow_bd A (Pa+Ea)
  have q3:=rlow_bd B (Pb+Eb)
  refine rless_lp ma A ga ca Pa Ea mb B gb cb Pb Eb w0 h1 h2 _ _ hsa hsb _ _ hta htb _ _ hla hlb (rat A (Pa+Ea)) (rat B (Pb+Eb)) (fun k k1 k2 W h=>rat_any ma A ga ca Pa Ea hA hca hPa hEa k ⟨k1,k2⟩ W h) (fun k k1 k2 W h=>rat_any mb B gb cb Pb Eb hB hcb hPb hEb k ⟨k1,k2⟩ W h) oM c3 bd c4 (min (rlow A (Pa+Ea)) (rlow B (Pb+Eb))) ?_ ?_ ?_ ?_ _ (hid (lp_rloop _ _ _ _ _ _ _))
  ·split <;> omega
  ·omega
  ·omega
  ·omega
 rw [if_neg c4]
 by_cases c5:rtop A (Pa+Ea)<rtop B (Pb+Eb)
 ·rw [if_pos c5]
  exact rless_tl ma A ga ca Pa Ea mb B gb cb Pb Eb w0 h1 h2 _ _ hsa hsb _ _ hta htb oM c3 bd c5
 ·rw [if_neg c5]
  exact rless_tg ma A ga ca Pa Ea mb B gb cb Pb Eb w0 h1 h2 _ _ hsa hsb _ _ hta htb oM c3 bd oM
end Nn
namespace Tw
set_option maxRecDepth 100000
open Go.RowKit
theorem info47: (prog.info? 193).map (·.size)=some 2:=by kernel_rfl
theorem lies47: liesAt prog prog.depth 417 (2 / prog.cellsOf 417) 0 193 1=true:=by kernel_rfl
theorem info5b: (prog.info? 5).map (fun i=>(i.zero,i.size,i.bytes))=some (some (.int .u8 0),1,1):=by kernel_rfl
theorem neB5: (417:TypeId)≠5:=by decide
def SB (B b:Nat) (l:List UInt8) (w:World):Prop:=Lib.IsBuilderF 417 5 B b (Lib.byteCells l) w
def Keeps (B b:Nat) (w w':World):Prop:=Below B w w'∧Lib.OthersKept 5 (some b) w w'
theorem Keeps.refl(B b:Nat)(w:World): Keeps B b w w:=⟨qR,Lib.OthersKept.refl _ _ _⟩
theorem Keeps.trans{B b:Nat}{w w' w'':World}(h:Keeps B b w w')(k:Keeps B b w' w''): Keeps B b w w'':=⟨h.1.trans k.1,h.2.trans k.2⟩
theorem check_fresh(b:Nat)(w:World)(h0:w.cell? ⟨b,0,none⟩=some (.pointer none))(hsh:w.shape? b=some (417,2))(hfz:w.frozen? ⟨b,0,none⟩=false):
  Calls prog 182 #[.pointer (some ⟨b,0,none⟩)] w fun e w'=>e=.returned (.tuple #[])∧w'=w.setCell ⟨b,0,none⟩ (.pointer (some ⟨b,0,none⟩)):=by
 obtain ⟨j,hj,hjs⟩ :=Option.map_eq_some_iff.1 info47
 go_enter func182,ntmps182
 go_wp2
 rw [Lib.run_to_unsafe w ⟨b,0,none⟩ underlying191 underlying370 hj (by rw [hjs];decide) hsh (Nat.zero_lt_succ 1)]
 simp only [Result.andThen]
 rw [Oper.upon_value]
 go_wp2
 rw [run_callFunc_extern func244 (by kernel_rfl) (by kernel_rfl) (by kernel_rfl) (e:=Extern.AbiNoEscape.same) (by kernel_rfl)]
 rw [Lib.run_noEscape]
 simp only [Result.andThen]
 rw [Oper.upon_value]
 go_wp2
 rw [Lib.run_from_unsafe w ⟨b,0,none⟩ underlying370 underlying191 hj hsh lies47]
 simp only [Result.andThen]
 rw [Oper.upon_value]
 go_wp2
 go_end0
 exact ⟨rfl,rfl⟩
theorem check_used(b:Nat)(w:World)(h0:w.cell? ⟨b,0,none⟩=some (.pointer (some ⟨b,0,none⟩))):
  Calls prog 182 #[.pointer (some ⟨b,0,none⟩)] w fun e w'=>e=.returned (.tuple #[])∧w'=w:=by
 obtain ⟨j,hj,_⟩ :=Option.map_eq_some_iff.1 info47
 go_enter func182,ntmps182
 go_wp2
 rw [Lib.run_neq_ptr_same w _ underlying191 hj]
 go_wp2
 go_end0
 exact ⟨rfl,rfl⟩
theorem check_any(B b:Nat)(bs:List Value)(w:World)(h:Lib.IsBuilderF 417 5 B b bs w):
  Calls prog 182 #[.pointer (some ⟨b,0,none⟩)] w fun e w'=>e=.returned (.tuple #[])∧(Lib.BuilderAtF 417 5 B b (.pointer (some ⟨b,0,none⟩)) bs w'∧Below B w w'∧Lib.OthersKept 5 (some b) w w'):=by
 rcases h with h|h
 ·refine (check_fresh b w h.cell0 h.shape h.frozen0).mono ?_
  rintro e w' ⟨rfl,rfl⟩
  exact ⟨rfl,h.used _,(Below.refl B w).setCell (p:=⟨b,0,none⟩) h.1 _,(Lib.OthersKept.refl _ _ w).setCell ⟨b,0,none⟩ rfl _⟩
 ·refine (check_used b w h.cell0).mono ?_
  rintro e w' ⟨rfl,rfl⟩
  exact ⟨rfl,h,Below.refl B _,Lib.OthersKept.refl _ _ _⟩
theorem writeByte_raw(B b:Nat)(bs:List Value)(c:Int)(w:World)(h:Lib.IsBuilderF 417 5 B b bs w)(hlen:bs.length+1≤140737488355328)(_hBw:B≤w.heap.size):
  Calls prog 126 #[.pointer (some ⟨b,0,none⟩),.int .u8 c] w fun e w'=>e=.returned .nilIface∧(Lib.BuilderAtF 417 5 B b (.pointer (some ⟨b,0,none⟩)) (bs++[.int .u8 c]) w'∧Below B w w'∧Lib.OthersKept 5 (some b) w w'):=by
 obtain ⟨i0,hi,hz0,hz1,hz2⟩ :=info_parts info5b
 go_enter func126,ntmps126
 go_wp2_with (go_at_call 182;refine (check_any B b bs _ h).mono ?_)
 rintro e w1 ⟨rfl,h1,hb1,hk1⟩
 obtain ⟨hB,v,hbk,hown,hne⟩ :=h1
 have:w1.cell? ⟨b,0,none⟩=some (.pointer (some ⟨b,0,none⟩)):=by rw [Lib.cell_of_heap hbk];rfl
 have c1:w1.cell? ⟨b,1,none⟩=some v:=by rw [Lib.cell_of_heap hbk];rfl
 go_wp2_with (at_builtin;refine wpList_append_ownF _ rfl _ _ 50 rfl B 5 i0 (.int .u8 0) 1 1 underlying50 hi hz0 hz1 hz2 rfl (by decide) _ _ _ rfl (hown.alloc _) ⟨w1.heap.size,0,none⟩ 1 1 [.int .u8 c] rfl rfl ?c1 ?c2 ?c3 ?c4 ?c5 ?_)
 case c1=>
  intro j u hj
  match j,hj with
  | 0,hj=>simp at hj;subst hj;simp [Addr.add]
 case c2=>intro u hu;simp at hu;subst hu;rfl
 case c3=>unfold maxLen;omega
 case c4=>omega
 case c5=>have:=hb1.size;simp;omega
 intro v' w2 hown' hgrow _
 have hlt:b<w1.heap.size:=by
  rcases Nat.lt_or_ge b w1.heap.size with h'|h'
  ·exact h'
  ·simp [Array.getElem?_eq_none h'] at hbk
 have hb2:w2.heap[b]?=some (.cells #[.pointer (some ⟨b,0,none⟩),v] 417 (0,0)):=by
  rw [hgrow.block b (by simp;omega) (fun e=>hne e.symm),Lib.alloc_old w1 _ b hlt]
  exact hbk
 have:w2.cell? ⟨b,0,none⟩=some (.pointer (some ⟨b,0,none⟩)):=by rw [Lib.cell_of_heap hb2];rfl
 have:w2.cell? ⟨b,1,none⟩=some v:=by rw [Lib.cell_of_heap hb2];rfl
 have:w2.frozen? ⟨b,1,none⟩=false:=Lib.frozen_of_heap hb2 1
 obtain ⟨g,cap,rfl⟩:∃g cap,v'=.slice (some ⟨g,0,none⟩) (bs.length+1) cap:=by
  rcases hown'.2 with ⟨_,h0⟩|⟨g,cap,cur,fz,hv,_⟩
  ·omega
  ·exact ⟨g,cap,hv⟩
 go_wp2
 go_ret
 refine ⟨rfl,?_,?_,((hk1.alloc _).grown hgrow (Lib.ownsRowF_kind (hown.alloc _))).setCell ⟨b,1,none⟩ rfl _⟩
 ·exact Lib.BuilderAtF.put (T:=417) (e:=5) hB hb2 (bs':=bs++[.int .u8 c]) (by simpa using hown') neB5
 ·exact ((hb1.alloc (by have:=hb1.size;omega) _).grown hgrow (by have:=hb1.size;simp;omega) (fun k hk=>(hown.lt k hk).1)).setCell (p:=⟨b,1,none⟩) hB _
theorem byteCells_snoc(l:List UInt8)(c:Int)(h0:0≤c)(h1:c≤255): Lib.byteCells l++[.int .u8 c]=Lib.byteCells (l++[UInt8.ofNat c.toNat]):=by
 have e:((UInt8.ofNat c.toNat).toNat:Int)=c:=by rw [UInt8.toNat_ofNat',Nat.mod_eq_of_lt (by omega)];omega
 simp only [Lib.byteCells,List.map_append,List.map_cons,List.map_nil,e]
theorem byteCells_len(l:List UInt8): (Lib.byteCells l).length=l.length:=by simp [Lib.byteCells]
theorem sb_writeByte(B b:Nat)(l:List UInt8)(c:Int)(w:World)(h:SB B b l w)(hlen:l.length≤100000000)(hBw:B≤w.heap.size)(h0:0≤c)(h1:c≤255):
  Calls prog 126 #[.pointer (some ⟨b,0,none⟩),.int .u8 c] w fun e w'=>e=.returned .nilIface∧SB B b (l++[UInt8.ofNat c.toNat]) w'∧Keeps B b w w':=by
 refine (writeByte_raw B b _ c w h (by rw [byteCells_len];omega) hBw).mono ?_
 rintro e w' ⟨rfl,h1',h2,h3⟩
 rw [byteCells_snoc l c h0 h1] at h1'
 exact ⟨rfl,.inr h1',h2,h3⟩
theorem sb_writeU8(B b:Nat)(l:List UInt8)(c:UInt8)(w:World)(h:SB B b l w)(hlen:l.length≤100000000)(hBw:B≤w.heap.size):
  Calls prog 126 #[.pointer (some ⟨b,0,none⟩),.int .u8 (c.toNat:Nat)] w fun e w'=>e=.returned .nilIface∧SB B b (l++[c]) w'∧Keeps B b w w':=by
 have:=sb_writeByte B b l (c.toNat:Nat) w h hlen hBw oM (by have:=c.toNat_lt;omega)
 simpa using this
theorem writeString_raw(B b:Nat)(bs:List Value)(s:ByteArray)(w:World)(h:Lib.IsBuilderF 417 5 B b bs w)(hlen:bs.length+s.size≤140737488355328)(hBw:B≤w.heap.size):
  Calls prog 99 #[.pointer (some ⟨b,0,none⟩),.string s] w fun e w'=>e=.returned (.tuple #[.int .i64 s.size,.nilIface])∧(Lib.BuilderAtF 417 5 B b (.pointer (some ⟨b,0,none⟩)) (bs++Lib.strCells s) w'∧Below B w w'∧Lib.OthersKept 5 (some b) w w'):=by
 obtain ⟨i0,hi,hz0,hz1,hz2⟩ :=info_parts info5b
 go_enter func99,ntmps99
 go_wp2_with (go_at_call 182;refine (check_any B b bs _ h).mono ?_)
 rintro e w1 ⟨rfl,h1,hb1,hk1⟩
 obtain ⟨hB,v,hbk,hown,hne⟩ :=h1
 have:w1.cell? ⟨b,0,none⟩=some (.pointer (some ⟨b,0,none⟩)):=by rw [Lib.cell_of_heap hbk];rfl
 have:w1.cell? ⟨b,1,none⟩=some v:=by rw [Lib.cell_of_heap hbk];rfl
 go_wp2_with (at_builtin;refine Lib.wpList_append_own_stringF _ rfl _ _ 50 9 rfl B 5 i0 underlying50 underlying9 hi hz0 hz1 hz2 _ _ _ rfl hown s rfl ?c3 ?c4 ?c5 ?_)
 case c3=>unfold maxLen;omega
 case c4=>omega
 case c5=>have:=hb1.size;omega
 intro v' w2 hown' hgrow _
 have hlt:b<w1.heap.size:=by
  rcases Nat.lt_or_ge b w1.heap.size with h'|h'
  ·exact h'
  ·simp [Array.getElem?_eq_none h'] at hbk
 have hb2:w2.heap[b]?=some (.cells #[.pointer (some ⟨b,0,none⟩),v] 417 (0,0)):=by
  rw [hgrow.block b hlt (fun e=>hne e.symm)]
  exact hbk
 have:w2.cell? ⟨b,0,none⟩=some (.pointer (some ⟨b,0,none⟩)):=by rw [Lib.cell_of_heap hb2];rfl
 have:w2.cell? ⟨b,1,none⟩=some v:=by rw [Lib.cell_of_heap hb2];rfl
 have:w2.frozen? ⟨b,1,none⟩=false:=Lib.frozen_of_heap hb2 1
 obtain ⟨ao,n',cap,rfl⟩:∃ao n' cap,v'=.slice ao n' cap:=by
  rcases hown'.2 with ⟨hv,_⟩|⟨g,cap,cur,fz,hv,_⟩
  ·exact ⟨_,_,_,hv⟩
  ·exact ⟨_,_,_,hv⟩
 go_wp2
 go_ret2
 refine ⟨rfl,?_,?_,(hk1.grown hgrow (Lib.ownsRowF_kind hown)).setCell ⟨b,1,none⟩ rfl _⟩
 ·exact Lib.BuilderAtF.put (T:=417) (e:=5) hB hb2 (bs':=bs++Lib.strCells s) (by simpa [Lib.strCells_length] using hown') neB5
 ·exact (hb1.grown hgrow (by have:=hb1.size;omega) (fun k hk=>(hown.lt k hk).1)).setCell (p:=⟨b,1,none⟩) hB _
theorem sb_writeString(B b:Nat)(l:List UInt8)(s:ByteArray)(w:World)(h:SB B b l w)(hlen:l.length≤100000000)(hs:s.size≤100000000)(hBw:B≤w.heap.size):
  Calls prog 99 #[.pointer (some ⟨b,0,none⟩),.string s] w fun e w'=>e=.returned (.tuple #[.int .i64 s.size,.nilIface])∧SB B b (l++s.data.toList) w'∧Keeps B b w w':=by
 refine (writeString_raw B b _ s w h (by rw [byteCells_len];omega) hBw).mono ?_
 rintro e w' ⟨rfl,h1',h2,h3⟩
 have e1:Lib.byteCells l++Lib.strCells s=Lib.byteCells (l++s.data.toList):=by simp [Lib.byteCells,Lib.strCells]
 rw [e1] at h1'
 exact ⟨rfl,.inr h1',h2,h3⟩
theorem cells5: prog.cellsOf 5=1:=by kernel_rfl
end Tw
end Go.Proofs.YtjcioljdlfdnbaaGreatDoor
