/- Part 35: lemmas for TopNumber; no conditions. -/
import Derived.Test.YtjcioljdlfdnbaaGreatDoorH30
import Derived.Test.YtjcioljdlfdnbaaGreatDoorH32
import Derived.Test.YtjcioljdlfdnbaaGreatDoorH34
set_option linter.unusedVariables false
set_option linter.unusedSimpArgs false
set_option maxRecDepth 100000
set_option maxHeartbeats 2000000
open Go.Proofs.Tryz
namespace Go.Proofs.YtjcioljdlfdnbaaGreatDoor
namespace Nn
open Go.RowKit
open Go.Proofs.Le Go.Proofs.Lw
abbrev v5:ByteArray:=⟨#[53]⟩
theorem n5_sc: ScT n5 3 2 53:=⟨rfl,rfl,by decide,by decide,by decide,by decide,by decide,rfl,rfl,rfl,by decide,by decide,lfS_5⟩
theorem n5_doc: Doc n5 v5 3 2:=⟨rfl,rfl,by decide,by decide,Bare.of _ (by intro b hb;cases hb;decide) (by intro b hb;cases hb;decide),Bare.of _ (by intro b hb;cases hb;decide) (by intro b hb;cases hb;decide),by first|rfl|decide,rfl,fun _=>rfl⟩
theorem n5_ms: Ms n5 0 false [((0:Int),(91:Int)),(((2:Nat):Int),(93:Int))]:=
 .yldF 0 _ 91 (by decide) rfl (.inl rfl) (.skipF 1 _ (by decide) (by decide) (.yldF 2 _ 93 (by decide) rfl (.inr rfl) (.nil _ _ (by decide))))
theorem n5_nl: n5.data.toList.contains 10=false:=by decide
theorem ok5: ((⟨#[111,107,32,49]⟩ ++(⟨#[10]⟩ ++v5):ByteArray))=⟨#[111,107,32,49,10,53]⟩ :=by first|rfl|decide
def AwP (w:World) (e:Ending) (w':World):Prop:=e=.returned (.bool true)∧Below w.heap.size w w'
theorem awake_any(w:World)(hTb:Tab w): Calls prog 4 #[] w fun e w'=>AwP w e w':=by
 have hR:=fun (ln lc:Nat) (W:World) (h:Tab W) (ll:ln<W.heap.size) (hl0:W.cell? ⟨ln,0,none⟩=some (.string ⟨#[118,97,108,117,101,115,32,48,32,57,32,36,91,48,93]⟩))=>run_9 n5 3 2 53 n5_sc n5_nl 3 (by decide) (by decide) n5_ms ln lc v5 n5_doc 2 (by decide) rfl (.inr (.inr ⟨.inr (by decide),rfl⟩)) (by decide) v5 (by decide) W h ll hl0 (fun p W h W' hW=>leaf_n p 3 2 n5 v5 n5_doc (by decide) 53 rfl (.inr (by decide)) W' (h.below hW))
 simp only [ok5,show ((3:Nat):Int)=3 from rfl] at hR
 go_enter func4,ntmps4
 go_wp2_with fail
 refine (hR w.heap.size 1 _ (hTb.below tq4) sM (by simp [go_sem])).mono ?_;rintro e w1 ⟨g,cc,rfl,⟨gl,gc⟩,hb⟩
 clear hR
 go_wp2_with fail
 go_ret
 exact ⟨rfl,(qR.alloc qL _).trans (hb.mono sM)⟩
end Nn
namespace Nn
open Go.RowKit
open Np
theorem aw_any(w W:World)(h:Tab w)(hb:Below w.heap.size w W): Calls prog 4 #[] W fun e w'=>e=.returned (.bool true)∧Hid (Below w.heap.size w w'):=
 (awake_any W (h.below hb)).mono (by rintro e w' ⟨rfl,h2⟩;exact ⟨rfl,hid (hb.trans (h2.mono hb.size))⟩)
theorem is_any(s:ByteArray)(hs:s.size≤80)(b:Bool)(hb:(numP s.data.toList).isSome=b)(w W:World)(h:Hid (Below w.heap.size w W)): Calls prog 5 #[.string s] W fun e w'=>e=.returned (.bool b)∧Hid (Below w.heap.size w w'):=
 (ris_any s hs W).mono (by rintro e w' ⟨rfl,h2⟩;exact ⟨by rw [hb],hid (h.out.trans (h2.mono h.out.size))⟩)
theorem law_long(s:ByteArray)(n:Int)(h80:80<s.size)(w:World)(hT:Tab w): Calls prog 3 #[.string s,.int .i64 n] w fun e w'=>e=.returned (.bool true)∧Below w.heap.size w w':=by
 have:decide (80<s.size)=true:=by rw [decide_eq_true_eq];exact h80
 go_enter func3,ntmps3
 go_wp2_with fail
 refine (aw_any w _ hT tq4).mono ?_;rintro e w1 ⟨rfl,H1⟩
 go_wp2_with fail
 refine (aw_any w _ hT tq4).mono ?_;rintro e w2 ⟨rfl,H2⟩
 go_wp2_with fail
 go_ret
 exact ⟨rfl,tq4⟩
theorem law_none(s:ByteArray)(n:Int)(h80:s.size≤80)(hn:(numP s.data.toList).isSome=false)(w:World)(hT:Tab w): Calls prog 3 #[.string s,.int .i64 n] w fun e w'=>e=.returned (.bool true)∧Below w.heap.size w w':=by
 have:decide (80<s.size)=false:=by rw [decide_eq_false_iff_not];omega
 go_enter func3,ntmps3
 go_wp2_with fail
 refine (aw_any w _ hT tq4).mono ?_;rintro e w1 ⟨rfl,H1⟩
 go_wp2_with fail
 refine (is_any s h80 _ hn w _ aM).mono ?_;rintro e w3 ⟨rfl,H3⟩
 go_wp2_with fail
 refine (aw_any w _ hT tq4).mono ?_;rintro e w2 ⟨rfl,H2⟩
 go_wp2_with fail
 go_ret
 exact ⟨rfl,tq4⟩
theorem law_far(s:ByteArray)(n:Int)(h80:s.size≤80)(hn:(numP s.data.toList).isSome=true)(hf:n < -9007199254740991∨9007199254740991<n)(w:World)(hT:Tab w): Calls prog 3 #[.string s,.int .i64 n] w fun e w'=>e=.returned (.bool true)∧Below w.heap.size w w':=by
 have:decide (80<s.size)=false:=by rw [decide_eq_false_iff_not];omega
 by_cases hf1:n < -9007199254740991
 ·have g2:decide (n < -9007199254740991)=true:=by rw [decide_eq_true_eq];exact hf1
  clear hf
  go_enter func3,ntmps3
  go_wp2_with fail
  refine (aw_any w _ hT tq4).mono ?_;rintro e w1 ⟨rfl,H1⟩
  go_wp2_with fail
  refine (is_any s h80 _ hn w _ aM).mono ?_;rintro e w3 ⟨rfl,H3⟩
  go_wp2_with fail
  refine (aw_any w _ hT tq4).mono ?_;rintro e w2 ⟨rfl,H2⟩
  go_wp2_with fail
  go_ret
  exact ⟨rfl,tq4⟩
 ·have g2:decide (n < -9007199254740991)=false:=by rw [decide_eq_false_iff_not];exact hf1
  have:decide (9007199254740991<n)=true:=by rw [decide_eq_true_eq];omega
  clear hf
  go_enter func3,ntmps3
  go_wp2_with fail
  refine (aw_any w _ hT tq4).mono ?_;rintro e w1 ⟨rfl,H1⟩
  go_wp2_with fail
  refine (is_any s h80 _ hn w _ aM).mono ?_;rintro e w3 ⟨rfl,H3⟩
  go_wp2_with fail
  refine (aw_any w _ hT tq4).mono ?_;rintro e w2 ⟨rfl,H2⟩
  go_wp2_with fail
  go_ret
  exact ⟨rfl,tq4⟩
def AskV (b:Bool) (v:Value):Prop:=(b=true∧∃g c,v=.slice (some ⟨g,0,none⟩) 1 c)∨(b=false∧v=.slice none 0 0)
theorem lask_b(s:ByteArray)(c:Int)(hN:NumT s c)(hs:s.size≤80)(j:Nat)(hj:j<6)(n h:Int)(q:ByteArray)(hQ:∀W:World,Calls prog 26 #[.string q] W fun e w'=>QueryF (j:Nat) n W e w')(w W:World)(hT:Tab w)(hC:CmpQ w s n h)(hb:Below w.heap.size w W):
  Calls prog 7 #[.string (brk s),.string q] W fun e w'=>∃v,e=.returned (.tuple #[v,.bool true])∧AskV (sgB j h) v∧Below W.heap.size W w':=by
 cases hv:sgB j h with
 | true=>exact (lask_t (s.size+2) (s.size+1) (brk s) s hN.doc hN.pos oM c hN.mark hN.hc hN.sc hN.nl hN.ms j hj n h q hQ hv W (hT.below hb) (hC.below hb)).mono (by rintro e w' ⟨g,cc,rfl,h⟩;exact ⟨_,rfl,.inl ⟨rfl,g,cc,rfl⟩,h⟩)
 | false=>exact (lask_n (s.size+2) (s.size+1) (brk s) s hN.doc hN.pos oM c hN.mark hN.hc hN.sc hN.nl hN.ms j hj n h q hQ hv W (hT.below hb) (hC.below hb)).mono (by rintro e w' ⟨rfl,h⟩;exact ⟨_,rfl,.inr ⟨rfl,rfl⟩,h⟩)
abbrev qA (o I:ByteArray):ByteArray:=((⟨#[36,91,63,64]⟩ ++o)++I)++⟨#[93]⟩
abbrev qB (o I:ByteArray):ByteArray:=((⟨#[36,91,63]⟩ ++I)++o)++⟨#[64,93]⟩
theorem qA_list(o I:ByteArray): (qA o I).data.toList=36::91::63::64::(o.data.toList++(I.data.toList++[93])):=by simp [qA]
theorem qB_list(o I:ByteArray): (qB o I).data.toList=36::91::63::(I.data.toList++(o.data.toList++[64,93])):=by simp [qB]
theorem itoa_len(n:Int)(hn:n.natAbs<10 ^ 16): (Lib.itoa n).length≤17:=by
 have h1:=nds_len n hn
 unfold nds at h1
 unfold Lib.itoa
 split
 ·simp;omega
 ·rw [show n.toNat=n.natAbs by omega];omega
theorem op_len{i:Nat}{o:ByteArray}(h:opsL[i]?=some o): o.size≤2:=by
 have:o∈opsL:=List.mem_of_getElem? h
 simp [opsL] at this
 rcases this with rfl|rfl|rfl|rfl|rfl|rfl <;> decide
theorem askA(s:ByteArray)(c:Int)(hN:NumT s c)(hs:s.size≤80)(j:Nat)(o:ByteArray)(ho:opsL[j]?=some o)(n h:Int)(hn:n.natAbs≤9007199254740991)(w W:World)(hT:Tab w)(hC:CmpQ w s n h)(hb:Below w.heap.size w W):
  Calls prog 7 #[.string (brk s),.string (qA o ⟨(Lib.itoa n).toArray⟩)] W fun e w'=>∃v,e=.returned (.tuple #[v,.bool true])∧AskV (sgB j h) v∧Below W.heap.size W w':=
 lask_b s c hN hs j (ops_lt ho) n h _ (fun W=>query_A _ (by
  have h1:=itoa_len n oM
  have h2:=op_len ho
  rw [Lib.size_eq,qA_list];simp;omega) j o ho n hn (qA_list _ _) W) w W hT hC hb
theorem askB(s:ByteArray)(c:Int)(hN:NumT s c)(hs:s.size≤80)(j i:Nat)(hji:trn i=j)(o:ByteArray)(ho:opsL[i]?=some o)(hj:j<6)(n h:Int)(hn:n.natAbs≤9007199254740991)(w W:World)(hT:Tab w)(hC:CmpQ w s n h)(hb:Below w.heap.size w W):
  Calls prog 7 #[.string (brk s),.string (qB o ⟨(Lib.itoa n).toArray⟩)] W fun e w'=>∃v,e=.returned (.tuple #[v,.bool true])∧AskV (sgB j h) v∧Below W.heap.size W w':=by
 have h1:=itoa_len n oM
 have h2:=op_len ho
 have h3:(qB o ⟨(Lib.itoa n).toArray⟩).size≤4096:=by rw [Lib.size_eq,qB_list];simp;omega
 refine lask_b s c hN hs j hj n h _ (fun W=>?_) w W hT hC hb
 rw [←hji]
 exact query_B _ h3 i o ho n hn (qB_list _ _) W
def tL:List Value:=[.int .i64 0,.int .i64 1,.int .i64 4,.int .i64 5,.int .i64 2,.int .i64 3]
theorem turns(j:Nat)(hj:j<6): ∃t o u,t<6∧trn t=j∧opsL[j]?=some o∧opsL[t]?=some u∧tL[j]?=some (.int .i64 (t:Nat)):=by
 obtain rfl|rfl|rfl|rfl|rfl|rfl:j=0∨j=1∨j=2∨j=3∨j=4∨j=5:=oM
 ·exact ⟨0,_,_,by omega,rfl,rfl,rfl,rfl⟩
 ·exact ⟨1,_,_,by omega,rfl,rfl,rfl,rfl⟩
 ·exact ⟨4,_,_,by omega,rfl,rfl,rfl,rfl⟩
 ·exact ⟨5,_,_,by omega,rfl,rfl,rfl,rfl⟩
 ·exact ⟨2,_,_,by omega,rfl,rfl,rfl,rfl⟩
 ·exact ⟨3,_,_,by omega,rfl,rfl,rfl,rfl⟩
structure LwH (w:World) (X Y:Nat) (h:Int) (W:World):Prop where
 x:Bk X (opsL.map Value.string) W
 y:Bk Y ((List.range 6).map fun i=>.bool (sgB i h)) W
 b:Below w.heap.size w W
theorem lw_below{w:World}{X Y:Nat}{h:Int}{W:World}{W':World}(H:Hid (LwH w X Y h W))(hb:Below W.heap.size W W'): Hid (LwH w X Y h W'):=hid ⟨H.out.x.below hb,H.out.y.below hb,H.out.b.trans (hb.mono H.out.b.size)⟩
theorem lw_drew{w:World}{X Y:Nat}{h:Int}{W:World}(H:Hid (LwH w X Y h W)): Hid (LwH w X Y h W.drew):=lw_below H qR.drew
theorem lw_alloc{w:World}{X Y:Nat}{h:Int}{W:World}(H:Hid (LwH w X Y h W))(o:Obj): Hid (LwH w X Y h (W.alloc o)):=lw_below H (qR.alloc qL o)
theorem lw_cell{w:World}{X Y:Nat}{h:Int}{W:World}(H:Hid (LwH w X Y h W)){j:Nat}{o:ByteArray}(ho:opsL[j]?=some o): W.cell? ⟨X,j,none⟩=some (.string o):=H.out.x.c j _ (by rw [List.getElem?_map,ho];rfl)
theorem lw_want{w:World}{X Y:Nat}{h:Int}{W:World}(H:Hid (LwH w X Y h W)){j:Nat}(hj:j<6): W.cell? ⟨Y,j,none⟩=some (.bool (sgB j h)):=H.out.y.c j _ (by simp [hj])
theorem lw_bel{w:World}{X Y:Nat}{h:Int}{W:World}(H:Hid (LwH w X Y h W)): Below w.heap.size w W:=H.out.b
theorem wp_cutv{P:Program}{c:Code}{Q:Exit→Act→World→Prop}{a:Act}{w:World}(S:Nat→Value→World→Prop)(A:Nat→Value→Act)(h:c.wp P (Exit.then (fun a w=>∃x y,a=A x y∧S x y w) Q) a w)(k:∀x y w,S x y w→Q .normal (A x y) w): c.wp P Q a w:=by
 refine wp_mono h ?_
 intro e a w hq
 cases e <;> first|(obtain ⟨x,y,rfl,hs⟩ :=hq;exact k _ _ _ hs)|exact hq
theorem row_new(W:World){j:Nat}{v:Value}(h:tL[j]?=some v): (W.alloc (.cells #[.int .i64 0,.int .i64 1,.int .i64 4,.int .i64 5,.int .i64 2,.int .i64 3] 3)).cell? ⟨W.heap.size,j,none⟩=some v:=
 (Bk.new W #[.int .i64 0,.int .i64 1,.int .i64 4,.int .i64 5,.int .i64 2,.int .i64 3] 3).c j v h
theorem row_kept{W w':World}(hb:Below (W.alloc (.cells #[.int .i64 0,.int .i64 1,.int .i64 4,.int .i64 5,.int .i64 2,.int .i64 3] 3)).heap.size (W.alloc (.cells #[.int .i64 0,.int .i64 1,.int .i64 4,.int .i64 5,.int .i64 2,.int .i64 3] 3)) w'){j:Nat}{v:Value}(h:tL[j]?=some v): w'.cell? ⟨W.heap.size,j,none⟩=some v:=
 (hb.cell (p:=⟨W.heap.size,j,none⟩) sM).trans (row_new W h)
theorem row_keptd{W w':World}(hb:Below (W.alloc (.cells #[.int .i64 0,.int .i64 1,.int .i64 4,.int .i64 5,.int .i64 2,.int .i64 3] 3)).drew.heap.size (W.alloc (.cells #[.int .i64 0,.int .i64 1,.int .i64 4,.int .i64 5,.int .i64 2,.int .i64 3] 3)).drew w'){j:Nat}{v:Value}(h:tL[j]?=some v): w'.cell? ⟨W.heap.size,j,none⟩=some v:=
 (hb.cell (p:=⟨W.heap.size,j,none⟩) sM).trans (by simpa using row_new W h)
theorem law_in(s:ByteArray)(n:Int)(c:Int)(hN:NumT s c)(h80:s.size≤80)(hn:(numP s.data.toList).isSome=true)(hf:¬n < -9007199254740991)(hg:¬9007199254740991<n)(h:Int)(hC:∀W,Calls prog 6 #[.string s,.int .i64 n] W fun e w'=>e=.returned (.int .i64 h)∧Below W.heap.size W w')(w:World)(hT:Tab w)(hQ:CmpQ w s n h): Calls prog 3 #[.string s,.int .i64 n] w fun e w'=>e=.returned (.bool true)∧Below w.heap.size w w':=by
 have:decide (80<s.size)=false:=by rw [decide_eq_false_iff_not];omega
 have:decide (n < -9007199254740991)=false:=by rw [decide_eq_false_iff_not];exact hf
 have:decide (9007199254740991<n)=false:=by rw [decide_eq_false_iff_not];exact hg
 have hn2:n.natAbs≤9007199254740991:=oM
 have HA:=hid (fun (j:Nat) (o:ByteArray) (ho:opsL[j]?=some o) (W:World) (hb:Below w.heap.size w W)=>askA s c hN h80 j o ho n h hn2 w W hT hQ hb)
 have HB:=hid (fun (j i:Nat) (hji:trn i=j) (o:ByteArray) (ho:opsL[i]?=some o) (hj:j<6) (W:World) (hb:Below w.heap.size w W)=>askB s c hN h80 j i hji o ho hj n h hn2 w W hT hQ hb)
 have hR:=fun W=>rint_any n oM W
 obtain ⟨I,hI⟩:∃I:ByteArray,I=⟨(Lib.itoa n).toArray⟩ :=⟨_,rfl⟩
 rw [←hI] at hR HA HB
 have:I.size≤17:=by rw [hI,Lib.size_eq];exact itoa_len n oM
 clear hQ hf hg
 go_enter func3,ntmps3
 go_wp2_with fail
 refine (aw_any w _ hT tq4).mono ?_;rintro e w1 ⟨rfl,H1⟩
 go_wp2_with fail
 refine (is_any s h80 _ hn w _ aM).mono ?_;rintro e w3 ⟨rfl,H3⟩
 clear H1 hn hT
 go_wp2_with fail
 refine (hC _).mono ?_;rintro e w4 ⟨rfl,hb4⟩
 have HB4:=hid hb4
 clear hb4 hC
 go_wp2_with fail
 have H0:Hid (LwH w w3.heap.size w4.heap.size h (w4.alloc (.cells #[.bool (h==0),.bool (h != 0),.bool (decide (h<0)),.bool (decide (h≤0)),.bool (decide (0<h)),.bool (decide (0≤h))] 4))):=by
  refine hid ⟨?_,?_,?_⟩
  ·exact ((Bk.new w3 #[.string ⟨#[61,61]⟩,.string ⟨#[33,61]⟩,.string ⟨#[60]⟩,.string ⟨#[60,61]⟩,.string ⟨#[62]⟩,.string ⟨#[62,61]⟩] 9).below HB4.out).below (qR.alloc qL _)
  ·exact Bk.new w4 #[.bool (h==0),.bool (h != 0),.bool (decide (h<0)),.bool (decide (h≤0)),.bool (decide (0<h)),.bool (decide (0≤h))] 4
  ·have x:=(H3.out.alloc H3.out.size (.cells #[.string ⟨#[61,61]⟩,.string ⟨#[33,61]⟩,.string ⟨#[60]⟩,.string ⟨#[60,61]⟩,.string ⟨#[62]⟩,.string ⟨#[62,61]⟩] 9))
   have y:=x.trans (HB4.out.mono x.size)
   exact y.alloc y.size _
 obtain ⟨X,hX⟩:∃X,w3.heap.size=X:=⟨_,rfl⟩
 obtain ⟨Y,hY⟩:∃Y,w4.heap.size=Y:=⟨_,rfl⟩
 rw [hX,hY] at H0 ⊢
 generalize w4.alloc _=V at H0 ⊢
 clear hX hY HB4 H3 hI hN
 have:¬9223372036854775807<1+s.size:=oM
 have:¬9223372036854775807<1+s.size+1:=oM
 have:¬9223372036854775807<3+I.size:=oM
 go_loopg [8] 6 (fun g v8 wr=>∃j:Nat,v8=.int .i64 (j:Nat)∧j≤6∧g=6-j∧Hid (LwH w X Y h wr))
 case atStart=>exact ⟨0,rfl,by omega,by omega,H0⟩
 case round=>
  clear H0
  obtain ⟨j,rfl,hj,rfl,H⟩ :=hrel
  by_cases hlt:j<6
  ·have:decide (j<6)=true:=by rw [decide_eq_true_eq];exact hlt
   have:(j:Int)<6:=oM
   have:¬(j:Int)<0:=oM
   have:IntKind.i64.wrap ((j:Int)+1)=(j:Int)+1:=IntWalk.i64_in _ oM
   obtain ⟨t,o,u,ht6,htj,ho,hu,htl⟩ :=turns j hlt
   have:(t:Int)<6:=oM
   have:¬(t:Int)<0:=oM
   have hA:=fun W hb=>HA.out j o ho W hb
   have hB:=fun W hb=>HB.out j t htj u hu hlt W hb
   have HT:=hid htl
   have HO:=hid ho
   have HU:=hid hu
   have z1:=op_len ho
   have z2:=op_len hu
   have:¬9223372036854775807<4+o.size:=oM
   have:¬9223372036854775807<4+o.size+I.size:=oM
   have:¬9223372036854775807<4+o.size+I.size+1:=oM
   have:¬9223372036854775807<3+I.size+u.size:=oM
   have:¬9223372036854775807<3+I.size+u.size+2:=oM
   clear HA HB htl ho hu htj hj
   go_wp2_with fail
   go_region_held3 (fun w'=>w'.cell? ⟨X,j,none⟩=some (.string o)∧Hid (LwH w X Y h w')) (first|exact ⟨lw_cell aM HO.out,by assumption⟩|exact ⟨lw_cell (lw_drew aM) HO.out,lw_drew aM⟩) (first|(go_at_call 8;refine (hR _).mono ?_;rintro e w5 ⟨rfl,hb⟩;have H5:=(by first|exact lw_below aM hb|exact lw_below (lw_drew aM) hb);clear hb)|(go_at_call 7;refine (hA _ (by first|exact lw_bel aM|exact lw_bel (lw_drew aM))).mono ?_;rintro e w6 ⟨v,rfl,hv,hb⟩;have H6:=(by first|exact lw_below aM hb|exact lw_below (lw_drew aM) hb);have HV:=hid hv;clear hb hv))
   go_wp2_with fail
   have xt:=lw_cell H6 HU.out
   have xl:=H6.out.x.lt
   have rn:=fun W=>row_new W HT.out
   apply wp_cutv (fun r v2 W'=>Hid (AskV (sgB j h) v2∧LwH w X Y h W'))
   ·go_region_law ((first|(go_simp;go_at_call 8;refine (hR _).mono ?_;rintro e w7 ⟨rfl,hb⟩;(try (have rr:=row_kept hb HT.out));(try (have rr:=row_keptd hb HT.out));have H7:=lw_below (show Hid (LwH w X Y h _) from by repeat' (first|assumption|refine lw_drew ?_|refine lw_alloc ?_ _)) hb;have xt7:=lw_cell H7 HU.out;have xl7:=H7.out.x.lt;clear hb)|(go_simp;go_at_call 7;refine (hB _ (lw_bel (show Hid (LwH w X Y h _) from by repeat' (first|assumption|refine lw_drew ?_|refine lw_alloc ?_ _)))).mono ?_;rintro e w8 ⟨v2,rfl,hv,hb⟩;have H8:=lw_below (show Hid (LwH w X Y h _) from by repeat' (first|assumption|refine lw_drew ?_|refine lw_alloc ?_ _)) hb;have HV2:=hid hv;clear hb hv)))
    all_goals go_simp
    all_goals first|(generalize w7.heap.size=r;exact ⟨r,v2,rfl,hid ⟨HV2.out,H8.out⟩⟩)|(generalize w6.heap.size=r;exact ⟨r,v2,rfl,hid ⟨HV2.out,H8.out⟩⟩)
   rintro r v2 W' HS
   have H9:Hid (LwH w X Y h W'):=hid HS.out.2
   have hv:=HV.out
   have hv2:=HS.out.1
   have y0:=lw_want H9 hlt
   clear HV HS xt xl H H6 hA hB rn
   generalize sgB j h=bb at hv hv2 y0
   have:∃i:Nat,i=j+1:=⟨_,rfl⟩
   cases bb with
   | true=>
    rcases hv with ⟨-,gv,cv,rfl⟩|⟨q,-⟩
    ·rcases hv2 with ⟨-,gv2,cv2,rfl⟩|⟨q,-⟩
     ·go_wp2_with fail
      go_roundg (6-(j+1))
      case measure=>go_light;omega
      case rel=>go_light;exact ⟨j+1,by go_num,by omega,rfl,(by repeat' (first|assumption|refine lw_drew ?_|refine lw_alloc ?_ _))⟩
     ·cases q
    ·cases q
   | false=>
    rcases hv with ⟨q,-⟩|⟨-,rfl⟩
    ·cases q
    ·rcases hv2 with ⟨q,-⟩|⟨-,rfl⟩
     ·cases q
     ·go_wp2_with fail
      go_roundg (6-(j+1))
      case measure=>go_light;omega
      case rel=>go_light;exact ⟨j+1,by go_num,by omega,rfl,(by repeat' (first|assumption|refine lw_drew ?_|refine lw_alloc ?_ _))⟩
  ·obtain rfl:j=6:=oM
   have hbl:=hid H.out.b
   go_wp2_with fail
   go_ret
   exact ⟨rfl,tq4⟩
theorem parts_len{l:List UInt8}{mi:Bool}{wh fr:List UInt8}{em:Bool}{ds:List UInt8}(h:Parts l mi wh fr em ds): wh.length+fr.length≤l.length∧ds.length≤l.length:=by
 obtain ⟨fp,xp,hl,hf,hx⟩ :=h.ex
 have h1:fr.length≤fp.length:=by
  rcases hf with ⟨rfl,rfl⟩|⟨_,rfl⟩ <;> simp
 have h2:ds.length≤xp.length:=by
  rcases hx with ⟨rfl,_,rfl⟩|⟨_,e,c,rfl,_,_⟩
  ·simp
  ·simp;omega
 have:=congrArg List.length hl
 simp at this
 omega
theorem law_any(s:ByteArray)(n:Int)(w:World)(hT:Tab w)(hP:P10 w): Calls prog 3 #[.string s,.int .i64 n] w fun e w'=>e=.returned (.bool true)∧Below w.heap.size w w':=by
 by_cases h80:80<s.size
 ·exact law_long s n h80 w hT
 ·have hs:s.size≤80:=oM
  cases hn:numP s.data.toList with
  | none=>exact law_none s n hs (by rw [hn];rfl) w hT
  | some y=>
   obtain ⟨mi,wh,fr,em,ds⟩ :=y
   have hi:(numP s.data.toList).isSome=true:=by rw [hn];rfl
   by_cases hf:n < -9007199254740991
   ·exact law_far s n hs hi (.inl hf) w hT
   ·by_cases hg:9007199254740991<n
    ·exact law_far s n hs hi (.inr hg) w hT
    ·have hp:=numP_parts hn
     obtain ⟨l1,l2⟩ :=parts_len hp
     rw [←Lib.size_eq] at l1 l2
     obtain ⟨c,hN⟩ :=num_of s hp oM
     have hn16:n.natAbs<10 ^ 16:=oM
     exact law_in s n c hN hs hi hf hg (rcmp mi wh fr em ds n) (fun W=>rcmp_any s hs n hn16 hn oM W) w hT
      (fun W hW=>ncmp s mi em wh fr ds n oM hp oM oM hn16 W (hP.below hW))
end Nn
end Go.Proofs.YtjcioljdlfdnbaaGreatDoor
