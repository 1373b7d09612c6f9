/- Part 31: lemmas for TopNumber; no conditions. -/
import Derived.Test.YtjcioljdlfdnbaaGreatDoorH29
set_option linter.unusedVariables false
set_option linter.unusedSimpArgs false
set_option maxRecDepth 100000
set_option maxHeartbeats 2000000
open Go.Proofs.Tryz
namespace Go.Proofs.YtjcioljdlfdnbaaGreatDoor
section
open Go.RowKit
theorem vals_1(L k:Nat)(C:ByteArray)(w:World): Calls prog 119 #[.agg #[.string ⟨#[36,91,48,93]⟩,.int .i64 1,.int .i64 (L:Nat),.int .i64 (k:Nat),.string C]] w fun e w'=>e=.returned (.string C)∧Below w.heap.size w w':=by
 go_enter func119,ntmps119
 go_wp2_with fail
 go_ret
 exact ⟨rfl,tq4⟩
theorem asked_9(p n L:Nat)(T V:ByteArray)(hD:Doc T V n L)(c:Int)(k:Nat)(hV:0<V.size)(hc:((V[0]'hV).toNat:Int)=c)(hk:Kd c k)(hk4:k<4)(C:ByteArray)(hCs:C.size≤100000)(s:Nat)(w:World)(hX:Ix w p T n)(hLf:LeafP w p C)(hS:Se w s p n): Calls prog 117 #[.agg #[.pointer (some ⟨s,0,none⟩)],.string ⟨#[48,32,57,32,36,91,48,93]⟩,.func (.func 119) #[] #[]] w fun e w'=>e=.returned (.string (⟨#[111,107,32,49]⟩ ++(⟨#[10]⟩ ++C)))∧Below w.heap.size w w':=by
 have:¬9223372036854775807<1+C.size:=oM
 have:¬9223372036854775807<4+(1+C.size):=oM
 go_enter func117,ntmps117
 go_wp2_with fail
 refine (ncut_5 _).mono ?_;rintro e w1 ⟨rfl,hb1⟩
 have s1:=hb1.size;try simp at s1
 try (have:w.heap.size<w1.heap.size:=oM)
 try (have:w.heap.size<w1.heap.size+1:=oM)
 try (have:w.heap.size<w1.heap.size+1+1:=oM)
 try (have e1_0_0_0:=hb1.cl w.heap.size 0;simp [go_sem, *] at e1_0_0_0)
 try (have f1_0_0_0:=hb1.fz w.heap.size 0;simp [go_sem, *] at f1_0_0_0)
 have HB1:=bel_step (w:=w) tq4 hb1
 clear hb1
 go_wp2_with fail
 refine (ncut_7 _).mono ?_;rintro e w2 ⟨rfl,hb2⟩
 have s2:=hb2.size;try simp at s2
 try (have:w.heap.size<w2.heap.size:=oM)
 try (have:w.heap.size<w2.heap.size+1:=oM)
 try (have:w.heap.size<w2.heap.size+1+1:=oM)
 try (have e2_0_0_0:=hb2.cl w.heap.size 0;simp [go_sem, *] at e2_0_0_0)
 try (have f2_0_0_0:=hb2.fz w.heap.size 0;simp [go_sem, *] at f2_0_0_0)
 have HB2:=bel_step (w:=w) tq4 hb2
 clear hb2
 go_wp2_with fail
 refine (ask_0 p n L T V hD c k hV hc hk hk4 C hCs s 9 oM oM _ (hX.below tq4) (hLf.below tq4) (hS.below tq4)).mono ?_;rintro e w3 ⟨g,cc,rfl,hH,hgg,hb3⟩
 have s3:=hb3.size;try simp at s3
 have HB3:=bel_step (w:=w) tq4 hb3
 clear hb3
 go_wp2_with fail
 refine (ok_1 (w3.heap.size+1) 1 _ (by simp [go_sem])).mono ?_;rintro e w4 ⟨rfl,hb4⟩
 have hH4:=(hH.below tq4).below hb4
 have s4:=hb4.size;try simp at s4
 have HB4:=bel_step (w:=w) tq4 hb4
 clear hb4 hH
 obtain ⟨h0,h1,h2,h3,h4,h5⟩ :=id hH4
 have:g<w4.heap.size+1:=oM
 have:g<w4.heap.size+1+1:=oM
 have:g<w4.heap.size+1+1+1:=oM
 have:g<w4.heap.size+1+1+1+1:=oM
 have:g<w4.heap.size+1+1+1+1+1:=oM
 go_wp2_with (first|(go_at_call 119;refine (vals_1 L k C _).mono ?_;rintro e w9 ⟨rfl,hb9⟩;have HB9:=bel_step (w:=w) tq4 hb9;clear hb9)|(refine wp_loop_unr 3 ?_;refine Unr.step ?_;intro U hU)|(refine Unr.step ?_;intro U hU))
 try simp only [Exit.inBlock,Exit.then]
 refine bodyPost_ret (v:=.string (⟨#[111,107,32,49]⟩ ++(⟨#[10]⟩ ++C))) (by simp [results,results117,go_sem, *]) rfl ⟨rfl,tq4⟩
theorem values_9(p n L:Nat)(T V:ByteArray)(hD:Doc T V n L)(c:Int)(k:Nat)(hV:0<V.size)(hc:((V[0]'hV).toNat:Int)=c)(hk:Kd c k)(hk4:k<4)(C:ByteArray)(hCs:C.size≤100000)(s:Nat)(w:World)(hX:Ix w p T n)(hLf:LeafP w p C)(hS:Se w s p n): Calls prog 58 #[.agg #[.pointer (some ⟨s,0,none⟩)],.string ⟨#[48,32,57,32,36,91,48,93]⟩,.bool true] w fun e w'=>e=.returned (.string (⟨#[111,107,32,49]⟩ ++(⟨#[10]⟩ ++C)))∧Below w.heap.size w w':=by
 go_enter func58,ntmps58
 go_wp2_with fail
 refine (asked_9 p n L T V hD c k hV hc hk hk4 C hCs s _ (hX.below tq4) (hLf.below tq4) (hS.below tq4)).mono ?_;rintro e w1 ⟨rfl,hb1⟩
 have s1:=hb1.size;try simp at s1
 try (have:w.heap.size<w1.heap.size:=oM)
 try (have:w.heap.size<w1.heap.size+1:=oM)
 try (have:w.heap.size<w1.heap.size+1+1:=oM)
 try (have e1_0_0_0:=hb1.cl w.heap.size 0;simp [go_sem, *] at e1_0_0_0)
 try (have f1_0_0_0:=hb1.fz w.heap.size 0;simp [go_sem, *] at f1_0_0_0)
 have HB1:=bel_step (w:=w) tq4 hb1
 clear hb1
 go_wp2_with fail
 go_ret
 exact ⟨rfl,tq4⟩
end
namespace Nn
open Go.RowKit
open Np
theorem npow_any(E:ByteArray)(em:Bool)(ds:List UInt8)(hs:E.size≤1000)(hX:Ex E.data.toList em ds)(hd:∀b∈ds,Dg b)(w:World): Calls prog 409 #[.string E] w fun e w'=>e=.returned (.int .i64 (ev em 1099511627776 ds))∧w=w':=by
 rcases hX with ⟨h1,rfl,rfl⟩|⟨h0,h⟩
 ·have:E=⟨#[]⟩ :=by
   cases E with|mk d=>cases d with|mk l=>simp at h1;subst h1;rfl
  subst this
  exact npow_e w
 ·rcases h with ⟨h1,rfl⟩|⟨h1,rfl⟩|⟨h1,rfl⟩
  ·exact npow_o E ds hs h1 h0 hd w
  ·exact npow_p E ds hs h1 hd w
  ·exact npow_m E ds hs h1 hd w
theorem ex_len{l:List UInt8}{em:Bool}{ds:List UInt8}(h:Ex l em ds): l.length≤ds.length+1:=by
 rcases h with ⟨rfl,_,_⟩|⟨_,⟨rfl,_⟩|⟨rfl,_⟩|⟨rfl,_⟩⟩ <;> simp
def VaP (v:Va) (e:Ending) (B:Nat) (w w':World):Prop:=∃D:ByteArray,e=.returned (.agg #[.bool v.mi,.string D,.int .i64 v.p])∧dig D.data.toList=v.T∧(∀b∈D.data.toList,Dg b)∧Below B w w'
structure RdH (w:World) (B:Nat) (mi:Bool) (W F E:ByteArray) (V:World):Prop where
 p:Bk B [.bool mi,.string W,.string F,.string E] V
 r:∃a b c,Bk (B+1) [a,b,c] V
 b:Below B w V
theorem rd_below{w:World}{B:Nat}{mi:Bool}{W F E:ByteArray}{V V':World}(h:Hid (RdH w B mi W F E V))(hb:Below V.heap.size V V'): Hid (RdH w B mi W F E V'):=
 hid ⟨h.out.p.below hb,(by obtain ⟨a,b,c,h⟩ :=h.out.r;exact ⟨a,b,c,h.below hb⟩),h.out.b.trans (hb.mono (by have:=h.out.p.lt;omega))⟩
theorem rd_drew{w:World}{B:Nat}{mi:Bool}{W F E:ByteArray}{V:World}(h:Hid (RdH w B mi W F E V)): Hid (RdH w B mi W F E V.drew):=rd_below h qR.drew
theorem rd_held{w:World}{B:Nat}{mi:Bool}{W F E:ByteArray}{V:World}(h:Hid (RdH w B mi W F E V)): V.cell? ⟨B,0,none⟩=some (.bool mi)∧V.cell? ⟨B,1,none⟩=some (.string W)∧V.cell? ⟨B,2,none⟩=some (.string F)∧V.cell? ⟨B,3,none⟩=some (.string E)∧Hid (RdH w B mi W F E V):=⟨h.out.p.c 0 _ rfl,h.out.p.c 1 _ rfl,h.out.p.c 2 _ rfl,h.out.p.c 3 _ rfl,h⟩
theorem rd_set{w:World}{B:Nat}{mi:Bool}{W F E:ByteArray}{V:World}(h:Hid (RdH w B mi W F E V))(i:Nat)(hi:i<3)(v:Value): Hid (RdH w B mi W F E (V.setCell ⟨B+1,i,none⟩ v)):=
 hid ⟨h.out.p.setO (by show B+1≠B;omega) v,(by
  obtain ⟨a,b,c,hr⟩ :=h.out.r
  match i,hi with
  | 0,_=>exact ⟨_,_,_,hr.setS 0 sM v⟩
  | 1,_=>exact ⟨_,_,_,hr.setS 1 sM v⟩
  | 2,_=>exact ⟨_,_,_,hr.setS 2 sM v⟩),Below.setCell h.out.b (by show B≤B+1;omega) _⟩
theorem rd_call{w:World}{B:Nat}{mi:Bool}{W F E:ByteArray}{V V':World}(h:Hid (RdH w B mi W F E V))(hb:Below V.heap.size V V'): ∃a b c,V'.cell? ⟨B+1,0,none⟩=some a∧V'.cell? ⟨B+1,1,none⟩=some b∧V'.cell? ⟨B+1,2,none⟩=some c∧V'.frozen? ⟨B+1,0,none⟩=false∧V'.frozen? ⟨B+1,1,none⟩=false∧V'.frozen? ⟨B+1,2,none⟩=false∧Hid (RdH w B mi W F E V'):=by
 have g:=(rd_below h hb).out
 obtain ⟨x,y,z,hr⟩ :=g.r
 exact ⟨x,y,z,hr.c 0 _ rfl,hr.c 1 _ rfl,hr.c 2 _ rfl,hr.z 0 sM,hr.z 1 sM,hr.z 2 sM,hid g⟩
theorem nread(mi em:Bool)(wh fr ds:List UInt8)(W F E:ByteArray)(hW:W.data.toList=wh)(hF:F.data.toList=fr)(hE:Ex E.data.toList em ds)(hs:wh.length+fr.length≤100)(hds:ds.length≤900)(hw:∀b∈wh,Dg b)(hf:∀b∈fr,Dg b)(hd:∀b∈ds,Dg b)(w:World): Calls prog 397 #[.agg #[.bool mi,.string W,.string F,.string E]] w fun e w'=>VaP (sva mi wh fr em ds) e w.heap.size w w':=by
 have hp:=fun V=>npow_any E em ds (by have:=ex_len hE;rw [Lib.size_eq];omega) hE hd V
 obtain ⟨X,hX⟩:∃X,ev em 1099511627776 ds=X:=⟨_,rfl⟩
 have:-1099511627776≤X∧X≤1099511627776:=by
  rw [←hX]
  have:=cut_le 1099511627776 ds
  unfold ev;split <;> omega
 rw [hX] at hp
 have hWs:W.size=wh.length:=by rw [Lib.size_eq,hW]
 have hl:(W++F).data.toList=wh++fr:=by simp [hW,hF]
 obtain ⟨U,hU⟩:∃U,W++F=U:=⟨_,rfl⟩
 rw [hU] at hl
 have ht:=fun V=>ntrim mi U (wh.length+X) (by rw [Lib.size_eq,hl];simp;omega) (by rw [hl];intro b hb;rcases List.mem_append.1 hb with h|h;exact hw b h;exact hf b h) oM oM V
 rw [hl] at ht
 have hv:va mi (dig (wh++fr)) (wh.length+X)=sva mi wh fr em ds:=by rw [←hX];rfl
 rw [hv] at ht
 obtain ⟨k,hk⟩:∃k:Nat,wh.length=k:=⟨_,rfl⟩
 rw [hk] at ht hWs
 have:k≤100:=oM
 have hw1:IntKind.i64.wrap ((k:Int)+X)=(k:Int)+X:=IntWalk.i64_in _ oM
 have:IntKind.i64.wrap (X+(k:Int))=(k:Int)+X:=by rw [Int.add_comm];exact hw1
 have:F.size≤100:=by rw [Lib.size_eq,hF];omega
 have:¬9223372036854775807<k+F.size:=oM
 generalize sva mi wh fr em ds=v at ht ⊢
 clear hE hW hF hw hf hd hX hl hv hk hs hds
 go_enter func397,ntmps397
 go_wp2_with fail
 have H0:Hid (RdH w w.heap.size mi W F E ((w.alloc (.cells #[.bool mi,.string W,.string F,.string E] 471)).alloc (.cells #[.bool false,.string ⟨#[]⟩,.int .i64 0] 475))):=hid ⟨(Bk.new w #[.bool mi,.string W,.string F,.string E] 471).below tq4,⟨.bool false,.string ⟨#[]⟩,.int .i64 0,by simpa using Bk.new (w.alloc (.cells #[.bool mi,.string W,.string F,.string E] 471)) #[.bool false,.string ⟨#[]⟩,.int .i64 0] 475⟩,tq4⟩
 obtain ⟨B,hB⟩:∃B,w.heap.size=B:=⟨_,rfl⟩
 rw [hB] at H0 ⊢
 generalize (w.alloc (.cells #[.bool mi,.string W,.string F,.string E] 471)).alloc (.cells #[.bool false,.string ⟨#[]⟩,.int .i64 0] 475)=V at H0 ⊢
 go_region_held3 (fun w'=>w'.cell? ⟨B,0,none⟩=some (.bool mi)∧w'.cell? ⟨B,1,none⟩=some (.string W)∧w'.cell? ⟨B,2,none⟩=some (.string F)∧w'.cell? ⟨B,3,none⟩=some (.string E)∧Hid (RdH w B mi W F E w')) (first|exact rd_held aM|exact rd_held (rd_drew aM)|exact rd_held (rd_set (rd_set (rd_set aM 0 oM _) 1 oM _) 2 oM _)) (first|(go_at_call 409;refine (hp _).mono ?_;rintro e w1 ⟨rfl,rfl⟩)|(go_at_call 408;refine (ht _).mono ?_;rintro e w1 ⟨D,rfl,h1,h2,hb⟩;obtain ⟨a0,a1,a2,ec0,ec1,ec2,ez0,ez1,ez2,hb2⟩ :=(by first|exact rd_call aM hb|exact rd_call (rd_drew aM) hb);have HP:=hid (And.intro h1 (And.intro h2 hb2.out.b));clear h1 h2 hb))
 all_goals go_wp2_with fail
 all_goals
  refine bodyPost_ret (v:=.agg #[.bool v.mi,.string D,.int .i64 v.p]) (by simp [results,results397,go_sem, *]) rfl ?_
  obtain ⟨h1,h2,hb⟩ :=HP.out
  exact ⟨D,rfl,h1,h2,by rw [hB];repeat' (first|refine Below.setCell ?_ (by first|omega|(show B≤B+1;omega)) _|refine below_drewN' ?_ _|refine Below.drew ?_|exact hb)⟩
end Nn
end Go.Proofs.YtjcioljdlfdnbaaGreatDoor
