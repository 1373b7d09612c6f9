/- Part 14: lemmas for TopNumber; no conditions. -/
import Derived.Test.YtjcioljdlfdnbaaGreatDoorH13
import Derived.Lib.LazyBuf
set_option linter.unusedVariables false
set_option linter.unusedSimpArgs false
set_option maxRecDepth 100000
set_option maxHeartbeats 2000000
open Go.Proofs.Tryz
namespace Go.Proofs.YtjcioljdlfdnbaaGreatDoor
namespace Nn
open Go.RowKit
open Np
theorem ext_l(s:ByteArray)(a:Nat): (s.extract a s.size).data.toList=s.data.toList.drop a:=Lib.Pa.extract_drop s a s.size rfl
theorem ext_e(s:ByteArray)(a:Nat): ∃u:ByteArray,s.extract a s.size=u∧u.data.toList=s.data.toList.drop a:=⟨_,rfl,ext_l s a⟩
theorem ext_t(s:ByteArray)(a:Nat): ∃u:ByteArray,s.extract 0 a=u∧u.data.toList=s.data.toList.take a:=⟨_,rfl,Lib.Pa.extract_upto_list s a⟩
theorem str_e(s:ByteArray)(b:Bool)(h:s.data.toList.isEmpty=b): s.toList.isEmpty=b:=by simpa only [ByteArray.toList_eq] using h
theorem npow_m(E:ByteArray)(ds:List UInt8)(hs:E.size≤1000)(hE:E.data.toList=45::ds)(hd:∀b∈ds,Dg b)(w:World): Calls prog 409 #[.string E] w fun e w'=>e=.returned (.int .i64 (ev true 1099511627776 ds))∧w=w':=by
 have h0:0<E.size:=by rw [Lib.size_eq,hE];simp
 have e0:=str_e E false (by rw [hE];rfl)
 have hX:=idx_run E 0 h0 0 rfl
 have hb:(E[0]'h0).toNat=45:=by
  have:E[0]'h0=45:=by
   have h1:E.data.toList[0]?=some (E[0]'h0):=List.getElem?_eq_some_iff.2 ⟨by rw [←Lib.size_eq];exact h0,rfl⟩
   rw [hE] at h1;simpa using h1.symm
  rw [this];rfl
 rw [hb] at hX
 clear hb
 have hdl:ds.length≤1000:=by rw [Lib.size_eq,hE] at hs;simp at hs;omega
 obtain ⟨u,hu,hul⟩ :=ext_e E 1
 rw [hE] at hul
 simp only [List.drop_succ_cons,List.drop_zero] at hul
 go_enter func409,ntmps409
 go_wp2_with fail
 have hcl:∀i,cut 1099511627776 (ds.take i)≤1099511627776:=fun i=>cut_le _ _
 have hus:u.size=ds.length:=by rw [Lib.size_eq,hul]
 go_loopg [4,21] ds.length (fun mm vn v12 wr=>∃i:Nat,v12=.int .i64 (i:Nat)∧i≤ds.length∧mm=ds.length-i∧vn=.int .i64 (cut 1099511627776 (ds.take i):Nat)∧wr=w)
 case atStart=>exact ⟨0,rfl,by omega,rfl,rfl,rfl⟩
 case round=>
  obtain ⟨i,rfl,hi,rfl,rfl,rfl⟩ :=hrel
  obtain ⟨c,hc⟩:∃c,cut 1099511627776 (ds.take i)=c:=⟨_,rfl⟩
  have hcl1:=hcl i
  rw [hc] at hcl1
  rw [hc]
  by_cases hlt:i<ds.length
  ·have f1:decide (i<u.size)=true:=by rw [decide_eq_true_eq];omega
   have f2:decide ((i:Int)<(u.size:Int))=true:=by rw [decide_eq_true_eq];omega
   have hk2:i<u.size:=oM
   have hX:=idx_run u i hk2 (i:Int) rfl
   have hbe:ds[i]?=some (u[i]'hk2):=by rw [←hul];exact List.getElem?_eq_some_iff.2 ⟨by rw [←Lib.size_eq];exact hk2,rfl⟩
   have hD:=hd _ (List.mem_of_getElem? hbe)
   obtain ⟨b,hb⟩:∃b,(u[i]'hk2).toNat=b:=⟨_,rfl⟩
   have hb1:48≤b∧b≤57:=by rw [←hb];exact hD
   have hnx:cut 1099511627776 (ds.take (i+1))=min (c * 10+(b-48)) 1099511627776:=by
    rw [List.take_succ_eq_append_getElem hlt,cut_snoc,hc]
    have:ds[i]=u[i]'hk2:=by
     have h3:=List.getElem?_eq_getElem hlt
     rw [hbe] at h3;injection h3 with h3;exact h3.symm
    rw [this];unfold dv;rw [hb]
   have HNX:=hid hnx
   rw [hb] at hX
   have w1:IntKind.i64.wrap ((c:Int) * 10)=(c:Int) * 10:=IntWalk.i64_in _ oM
   have w2:IntKind.u8.wrap ((b:Int)-48)=(b:Int)-48:=IntWalk.u8_in _ oM
   have w3:IntKind.i64.wrap ((b:Int)-48)=(b:Int)-48:=IntWalk.i64_in _ oM
   have w4:IntKind.i64.wrap ((c:Int) * 10+((b:Int)-48))=(c:Int) * 10+((b:Int)-48):=IntWalk.i64_in _ oM
   clear hnx hc hD hbe
   go_wp2_with fail
   go_roundg (ds.length-(i+1))
   case measure=>go_light;omega
   case rel=>go_light;exact ⟨i+1,by go_num,by omega,rfl,by rw [HNX.out,show ((min (c * 10+(b-48)) 1099511627776:Nat):Int)=min ((c:Int) * 10+((b:Int)-48)) 1099511627776 by omega],rfl⟩
  ·obtain rfl:i=ds.length:=oM
   have f1:decide (ds.length<u.size)=false:=by rw [decide_eq_false_iff_not];omega
   have f2:decide ((ds.length:Int)<(u.size:Int))=false:=by rw [decide_eq_false_iff_not];omega
   rw [List.take_length] at hc
   have wn:IntKind.i64.wrap (-(c:Int))=-(c:Int):=IntWalk.i64_in _ oM
   go_wp2_with fail
   go_ret
   exact ⟨by simp [ev,hc],rfl⟩
theorem npow_p(E:ByteArray)(ds:List UInt8)(hs:E.size≤1000)(hE:E.data.toList=43::ds)(hd:∀b∈ds,Dg b)(w:World): Calls prog 409 #[.string E] w fun e w'=>e=.returned (.int .i64 (ev false 1099511627776 ds))∧w=w':=by
 have h0:0<E.size:=by rw [Lib.size_eq,hE];simp
 have e0:=str_e E false (by rw [hE];rfl)
 have hX:=idx_run E 0 h0 0 rfl
 have hb:(E[0]'h0).toNat=43:=by
  have:E[0]'h0=43:=by
   have h1:E.data.toList[0]?=some (E[0]'h0):=List.getElem?_eq_some_iff.2 ⟨by rw [←Lib.size_eq];exact h0,rfl⟩
   rw [hE] at h1;simpa using h1.symm
  rw [this];rfl
 rw [hb] at hX
 clear hb
 have hdl:ds.length≤1000:=by rw [Lib.size_eq,hE] at hs;simp at hs;omega
 obtain ⟨u,hu,hul⟩ :=ext_e E 1
 rw [hE] at hul
 simp only [List.drop_succ_cons,List.drop_zero] at hul
 go_enter func409,ntmps409
 go_wp2_with fail
 have hcl:∀i,cut 1099511627776 (ds.take i)≤1099511627776:=fun i=>cut_le _ _
 have hus:u.size=ds.length:=by rw [Lib.size_eq,hul]
 go_loopg [4,21] ds.length (fun mm vn v12 wr=>∃i:Nat,v12=.int .i64 (i:Nat)∧i≤ds.length∧mm=ds.length-i∧vn=.int .i64 (cut 1099511627776 (ds.take i):Nat)∧wr=w)
 case atStart=>exact ⟨0,rfl,by omega,rfl,rfl,rfl⟩
 case round=>
  obtain ⟨i,rfl,hi,rfl,rfl,rfl⟩ :=hrel
  obtain ⟨c,hc⟩:∃c,cut 1099511627776 (ds.take i)=c:=⟨_,rfl⟩
  have hcl1:=hcl i
  rw [hc] at hcl1
  rw [hc]
  by_cases hlt:i<ds.length
  ·have f1:decide (i<u.size)=true:=by rw [decide_eq_true_eq];omega
   have f2:decide ((i:Int)<(u.size:Int))=true:=by rw [decide_eq_true_eq];omega
   have hk2:i<u.size:=oM
   have hX:=idx_run u i hk2 (i:Int) rfl
   have hbe:ds[i]?=some (u[i]'hk2):=by rw [←hul];exact List.getElem?_eq_some_iff.2 ⟨by rw [←Lib.size_eq];exact hk2,rfl⟩
   have hD:=hd _ (List.mem_of_getElem? hbe)
   obtain ⟨b,hb⟩:∃b,(u[i]'hk2).toNat=b:=⟨_,rfl⟩
   have hb1:48≤b∧b≤57:=by rw [←hb];exact hD
   have hnx:cut 1099511627776 (ds.take (i+1))=min (c * 10+(b-48)) 1099511627776:=by
    rw [List.take_succ_eq_append_getElem hlt,cut_snoc,hc]
    have:ds[i]=u[i]'hk2:=by
     have h3:=List.getElem?_eq_getElem hlt
     rw [hbe] at h3;injection h3 with h3;exact h3.symm
    rw [this];unfold dv;rw [hb]
   have HNX:=hid hnx
   rw [hb] at hX
   have w1:IntKind.i64.wrap ((c:Int) * 10)=(c:Int) * 10:=IntWalk.i64_in _ oM
   have w2:IntKind.u8.wrap ((b:Int)-48)=(b:Int)-48:=IntWalk.u8_in _ oM
   have w3:IntKind.i64.wrap ((b:Int)-48)=(b:Int)-48:=IntWalk.i64_in _ oM
   have w4:IntKind.i64.wrap ((c:Int) * 10+((b:Int)-48))=(c:Int) * 10+((b:Int)-48):=IntWalk.i64_in _ oM
   clear hnx hc hD hbe
   go_wp2_with fail
   go_roundg (ds.length-(i+1))
   case measure=>go_light;omega
   case rel=>go_light;exact ⟨i+1,by go_num,by omega,rfl,by rw [HNX.out,show ((min (c * 10+(b-48)) 1099511627776:Nat):Int)=min ((c:Int) * 10+((b:Int)-48)) 1099511627776 by omega],rfl⟩
  ·obtain rfl:i=ds.length:=oM
   have f1:decide (ds.length<u.size)=false:=by rw [decide_eq_false_iff_not];omega
   have f2:decide ((ds.length:Int)<(u.size:Int))=false:=by rw [decide_eq_false_iff_not];omega
   rw [List.take_length] at hc
   have wn:IntKind.i64.wrap (-(c:Int))=-(c:Int):=IntWalk.i64_in _ oM
   go_wp2_with fail
   go_ret
   exact ⟨by simp [ev,hc],rfl⟩
theorem npow_o(E:ByteArray)(ds:List UInt8)(hs:E.size≤1000)(hE:E.data.toList=ds)(hne:ds≠[])(hd:∀b∈ds,Dg b)(w:World): Calls prog 409 #[.string E] w fun e w'=>e=.returned (.int .i64 (ev false 1099511627776 ds))∧w=w':=by
 have h0:0<E.size:=by rw [Lib.size_eq,hE];exact List.length_pos_iff.2 hne
 have e0:=str_e E false (by rw [hE];simpa using hne)
 have hX:=idx_run E 0 h0 0 rfl
 have hb:Dg (E[0]'h0):=by
  have h1:E.data.toList[0]?=some (E[0]'h0):=List.getElem?_eq_some_iff.2 ⟨by rw [←Lib.size_eq];exact h0,rfl⟩
  rw [hE] at h1;exact hd _ (List.mem_of_getElem? h1)
 obtain ⟨b0,hb0⟩:∃b,(E[0]'h0).toNat=b:=⟨_,rfl⟩
 have hb1:48≤b0:=by rw [←hb0];exact hb.1
 rw [hb0] at hX
 have g1:((b0:Int)==45)=false:=by rw [beq_eq_false_iff_ne];omega
 have g2:((b0:Int)==43)=false:=by rw [beq_eq_false_iff_ne];omega
 clear hb hb1
 have hdl:ds.length≤1000:=by rw [Lib.size_eq,hE] at hs;exact hs
 have hul:E.data.toList=ds:=hE
 go_enter func409,ntmps409
 go_wp2_with fail
 have hcl:∀i,cut 1099511627776 (ds.take i)≤1099511627776:=fun i=>cut_le _ _
 have hus:E.size=ds.length:=by rw [Lib.size_eq,hul]
 go_loopg [4,21] ds.length (fun mm vn v12 wr=>∃i:Nat,v12=.int .i64 (i:Nat)∧i≤ds.length∧mm=ds.length-i∧vn=.int .i64 (cut 1099511627776 (ds.take i):Nat)∧wr=w)
 case atStart=>exact ⟨0,rfl,by omega,rfl,rfl,rfl⟩
 case round=>
  obtain ⟨i,rfl,hi,rfl,rfl,rfl⟩ :=hrel
  obtain ⟨c,hc⟩:∃c,cut 1099511627776 (ds.take i)=c:=⟨_,rfl⟩
  have hcl1:=hcl i
  rw [hc] at hcl1
  rw [hc]
  by_cases hlt:i<ds.length
  ·have f1:decide (i<E.size)=true:=by rw [decide_eq_true_eq];omega
   have f2:decide ((i:Int)<(E.size:Int))=true:=by rw [decide_eq_true_eq];omega
   have hk2:i<E.size:=oM
   have hX:=idx_run E i hk2 (i:Int) rfl
   have hbe:ds[i]?=some (E[i]'hk2):=by rw [←hul];exact List.getElem?_eq_some_iff.2 ⟨by rw [←Lib.size_eq];exact hk2,rfl⟩
   have hD:=hd _ (List.mem_of_getElem? hbe)
   obtain ⟨b,hb⟩:∃b,(E[i]'hk2).toNat=b:=⟨_,rfl⟩
   have hb1:48≤b∧b≤57:=by rw [←hb];exact hD
   have hnx:cut 1099511627776 (ds.take (i+1))=min (c * 10+(b-48)) 1099511627776:=by
    rw [List.take_succ_eq_append_getElem hlt,cut_snoc,hc]
    have:ds[i]=E[i]'hk2:=by
     have h3:=List.getElem?_eq_getElem hlt
     rw [hbe] at h3;injection h3 with h3;exact h3.symm
    rw [this];unfold dv;rw [hb]
   have HNX:=hid hnx
   rw [hb] at hX
   have w1:IntKind.i64.wrap ((c:Int) * 10)=(c:Int) * 10:=IntWalk.i64_in _ oM
   have w2:IntKind.u8.wrap ((b:Int)-48)=(b:Int)-48:=IntWalk.u8_in _ oM
   have w3:IntKind.i64.wrap ((b:Int)-48)=(b:Int)-48:=IntWalk.i64_in _ oM
   have w4:IntKind.i64.wrap ((c:Int) * 10+((b:Int)-48))=(c:Int) * 10+((b:Int)-48):=IntWalk.i64_in _ oM
   clear hnx hc hD hbe
   go_wp2_with fail
   go_roundg (ds.length-(i+1))
   case measure=>go_light;omega
   case rel=>go_light;exact ⟨i+1,by go_num,by omega,rfl,by rw [HNX.out,show ((min (c * 10+(b-48)) 1099511627776:Nat):Int)=min ((c:Int) * 10+((b:Int)-48)) 1099511627776 by omega],rfl⟩
  ·obtain rfl:i=ds.length:=oM
   have f1:decide (ds.length<E.size)=false:=by rw [decide_eq_false_iff_not];omega
   have f2:decide ((ds.length:Int)<(E.size:Int))=false:=by rw [decide_eq_false_iff_not];omega
   rw [List.take_length] at hc
   have wn:IntKind.i64.wrap (-(c:Int))=-(c:Int):=IntWalk.i64_in _ oM
   go_wp2_with fail
   go_ret
   exact ⟨by simp [ev,hc],rfl⟩
end Nn
namespace Nn
open Go.RowKit
theorem sing_0(w:World): Calls prog 395 #[.agg #[.bool false,.slice none 0 0]] w fun e w'=>e=.returned (.bool true)∧Below w.heap.size w w':=by
 go_enter func395,ntmps395
 go_wp2_with (first|go_in|(refine wp_loop_unr 2 ?_;refine Unr.step ?_;intro U hU))
 go_ret
 exact ⟨rfl,tq4⟩
theorem side_num{r g:Nat}{en dp:Int}{t:Tok}{ts:List Tok}(hk:t.K=3)(w:World)(h:Rt w r g (t::ts) en dp): Calls prog 393 #[.pointer (some ⟨r,0,none⟩)] w fun e w'=>e=.returned (.agg #[.bool true,.int .i64 2,.int .i64 t.N,.string ⟨#[]⟩,.bool false,.slice none 0 0])∧QF r w w'∧Rt w' r g (ts) en (dp):=by
 have lt:=h.lt
 have glt:=h.glt
 have H:=hid h
 obtain ⟨K,S,N,A⟩ :=t
 simp only at hk
 subst hk
 have ha:Is ⟨3,S,N,A⟩ ⟨#[64]⟩ false:=by simp [Is]
 have hb:Is ⟨3,S,N,A⟩ ⟨#[36]⟩ false:=by simp [Is]
 have hK:=fun W h=>kind_t (r:=r) (g:=g) (t:=⟨3,S,N,A⟩) (ts:=ts) (en:=en) (dp:=dp) W h
 have hN:=fun W h=>next_t (r:=r) (g:=g) (t:=⟨3,S,N,A⟩) (ts:=ts) (en:=en) (dp:=dp) W h
 simp only [Tok.v] at hK hN ⊢
 have:∀w:World,(Instr.field 262 (.agg #[.int .i64 3,.string S,.int .i64 N,.int .i64 A,.bool false]) 2).run prog w=.ok (.int .i64 N) w:=fun _=>by kernel_rfl
 clear h
 go_enter func393,ntmps393
 go_wp2_with (first|(go_at_call 80;(first|((with_reducible show Calls prog 80 #[_,.string ⟨#[64]⟩] _ _);refine (is_t (r:=r) (g:=g) (t:=⟨3,S,N,A⟩) (ts:=ts) (en:=en) (dp:=dp) _ false ha _ (by repeat' (first|refine Rt.setO ?_ tq5 tq5 _|refine Rt.below ?_ (qR.alloc qL _)|refine Rt.below ?_ (below_drewN' qR _)|refine Rt.below ?_ (Below.drew qR)|assumption|exact Hid.out aM))).mono ?_)|((with_reducible show Calls prog 80 #[_,.string ⟨#[36]⟩] _ _);refine (is_t (r:=r) (g:=g) (t:=⟨3,S,N,A⟩) (ts:=ts) (en:=en) (dp:=dp) _ false hb _ (by repeat' (first|refine Rt.setO ?_ tq5 tq5 _|refine Rt.below ?_ (qR.alloc qL _)|refine Rt.below ?_ (below_drewN' qR _)|refine Rt.below ?_ (Below.drew qR)|assumption|exact Hid.out aM))).mono ?_));rintro e w9 ⟨rfl,rfl⟩)|(go_at_call 150;refine (hK _ (by repeat' (first|refine Rt.setO ?_ tq5 tq5 _|refine Rt.below ?_ (qR.alloc qL _)|refine Rt.below ?_ (below_drewN' qR _)|refine Rt.below ?_ (Below.drew qR)|assumption|exact Hid.out aM))).mono ?_;rintro e w9 ⟨rfl,rfl⟩))
 refine (hN _ (by repeat' (first|refine Rt.setO ?_ tq5 tq5 _|refine Rt.below ?_ (qR.alloc qL _)|refine Rt.below ?_ (below_drewN' qR _)|refine Rt.below ?_ (Below.drew qR)|assumption|exact Hid.out aM))).mono ?_;rintro e w1 ⟨rfl,hf,hn⟩
 have s1:=hf.gr.size;try simp at s1
 try (have:r<w1.heap.size:=oM)
 try (have:w.heap.size<w1.heap.size:=oM)
 try (have e1_0:=hf.far (b:=w.heap.size) (c:=0) tq5 oM;simp [go_sem] at e1_0)
 try (have f1_0:=hf.farz (b:=w.heap.size) (c:=0) tq5 oM;simp [go_sem] at f1_0)
 try (have:w.heap.size<w1.heap.size:=oM)
 try (have e1_1:=hf.far (b:=w.heap.size) (c:=1) tq5 oM;simp [go_sem] at e1_1)
 try (have f1_1:=hf.farz (b:=w.heap.size) (c:=1) tq5 oM;simp [go_sem] at f1_1)
 try (have:w.heap.size<w1.heap.size:=oM)
 try (have e1_2:=hf.far (b:=w.heap.size) (c:=2) tq5 oM;simp [go_sem] at e1_2)
 try (have f1_2:=hf.farz (b:=w.heap.size) (c:=2) tq5 oM;simp [go_sem] at f1_2)
 try (have:w.heap.size<w1.heap.size:=oM)
 try (have e1_3:=hf.far (b:=w.heap.size) (c:=3) tq5 oM;simp [go_sem] at e1_3)
 try (have f1_3:=hf.farz (b:=w.heap.size) (c:=3) tq5 oM;simp [go_sem] at f1_3)
 try (have:w.heap.size<w1.heap.size:=oM)
 try (have e1_4:=hf.far (b:=w.heap.size) (c:=4) tq5 oM;simp [go_sem] at e1_4)
 try (have f1_4:=hf.farz (b:=w.heap.size) (c:=4) tq5 oM;simp [go_sem] at f1_4)
 try (have:w.heap.size<w1.heap.size:=oM)
 try (have e1_5:=hf.far (b:=w.heap.size) (c:=5) tq5 oM;simp [go_sem] at e1_5)
 try (have f1_5:=hf.farz (b:=w.heap.size) (c:=5) tq5 oM;simp [go_sem] at f1_5)
 have F1:=qf_step (r:=r) (w:=w) (by (repeat' (first|refine QF.new ?_ aM tq5 _|(refine QF.alloc ?_ aM _)|(refine QF.drewN ?_ aM _)|(refine QF.drew ?_ aM)|refine QF.set ?_ (by first|rfl|(simp;done)) _|assumption|exact Hid.out aM|exact QF.refl _ _))) hf
 have HN:=hid hn
 clear hf hn H
 go_wp2_with fail
 try simp only [Exit.inBlock,Exit.then]
 refine bodyPost_ret (v:=.agg #[.bool true,.int .i64 2,.int .i64 N,.string ⟨#[]⟩,.bool false,.slice none 0 0]) (by simp [results,results393,go_sem, *]) rfl ⟨rfl,(by (repeat' (first|refine QF.new ?_ aM tq5 _|(refine QF.alloc ?_ aM _)|(refine QF.drewN ?_ aM _)|(refine QF.drew ?_ aM)|refine QF.set ?_ (by first|rfl|(simp;done)) _|assumption|exact Hid.out aM|exact QF.refl _ _))),(by repeat' (first|refine Rt.setO ?_ tq5 tq5 _|refine Rt.below ?_ (qR.alloc qL _)|refine Rt.below ?_ (below_drewN' qR _)|refine Rt.below ?_ (Below.drew qR)|assumption|exact Hid.out aM))⟩
theorem side_path{r g:Nat}{en dp:Int}{t u:Tok}{ts:List Tok}(ht:Is t ⟨#[64]⟩ true)(ht2:Is t ⟨#[36]⟩ false)(hu:Nos u)(w:World)(h:Rt w r g (t::u::ts) en dp): Calls prog 393 #[.pointer (some ⟨r,0,none⟩)] w fun e w'=>e=.returned (.agg #[.bool false,.int .i64 0,.int .i64 0,.string ⟨#[]⟩,.bool false,.slice none 0 0])∧QF r w w'∧Rt w' r g (u::ts) en (dp):=by
 have lt:=h.lt
 have glt:=h.glt
 have H:=hid h
 have hP:=fun W h=>path_t (r:=r) (g:=g) (t:=t) (u:=u) (ts:=ts) (en:=en) (dp:=dp) ht2 hu W h
 clear h
 go_enter func393,ntmps393
 go_wp2_with (first|(go_at_call 80;(first|((with_reducible show Calls prog 80 #[_,.string ⟨#[64]⟩] _ _);refine (is_t (r:=r) (g:=g) (t:=t) (ts:=u::ts) (en:=en) (dp:=dp) _ true ht _ (by repeat' (first|refine Rt.setO ?_ tq5 tq5 _|refine Rt.below ?_ (qR.alloc qL _)|refine Rt.below ?_ (below_drewN' qR _)|refine Rt.below ?_ (Below.drew qR)|assumption|exact Hid.out aM))).mono ?_));rintro e w9 ⟨rfl,rfl⟩))
 refine (hP _ (by repeat' (first|refine Rt.setO ?_ tq5 tq5 _|refine Rt.below ?_ (qR.alloc qL _)|refine Rt.below ?_ (below_drewN' qR _)|refine Rt.below ?_ (Below.drew qR)|assumption|exact Hid.out aM))).mono ?_;rintro e w1 ⟨rfl,hf,hn⟩
 have s1:=hf.gr.size;try simp at s1
 try (have:r<w1.heap.size:=oM)
 try (have:w.heap.size<w1.heap.size:=oM)
 try (have e1_0:=hf.far (b:=w.heap.size) (c:=0) tq5 oM;simp [go_sem] at e1_0)
 try (have f1_0:=hf.farz (b:=w.heap.size) (c:=0) tq5 oM;simp [go_sem] at f1_0)
 try (have:w.heap.size<w1.heap.size:=oM)
 try (have e1_1:=hf.far (b:=w.heap.size) (c:=1) tq5 oM;simp [go_sem] at e1_1)
 try (have f1_1:=hf.farz (b:=w.heap.size) (c:=1) tq5 oM;simp [go_sem] at f1_1)
 try (have:w.heap.size<w1.heap.size:=oM)
 try (have e1_2:=hf.far (b:=w.heap.size) (c:=2) tq5 oM;simp [go_sem] at e1_2)
 try (have f1_2:=hf.farz (b:=w.heap.size) (c:=2) tq5 oM;simp [go_sem] at f1_2)
 try (have:w.heap.size<w1.heap.size:=oM)
 try (have e1_3:=hf.far (b:=w.heap.size) (c:=3) tq5 oM;simp [go_sem] at e1_3)
 try (have f1_3:=hf.farz (b:=w.heap.size) (c:=3) tq5 oM;simp [go_sem] at f1_3)
 try (have:w.heap.size<w1.heap.size:=oM)
 try (have e1_4:=hf.far (b:=w.heap.size) (c:=4) tq5 oM;simp [go_sem] at e1_4)
 try (have f1_4:=hf.farz (b:=w.heap.size) (c:=4) tq5 oM;simp [go_sem] at f1_4)
 try (have:w.heap.size<w1.heap.size:=oM)
 try (have e1_5:=hf.far (b:=w.heap.size) (c:=5) tq5 oM;simp [go_sem] at e1_5)
 try (have f1_5:=hf.farz (b:=w.heap.size) (c:=5) tq5 oM;simp [go_sem] at f1_5)
 have F1:=qf_step (r:=r) (w:=w) (by (repeat' (first|refine QF.new ?_ aM tq5 _|(refine QF.alloc ?_ aM _)|(refine QF.drewN ?_ aM _)|(refine QF.drew ?_ aM)|refine QF.set ?_ (by first|rfl|(simp;done)) _|assumption|exact Hid.out aM|exact QF.refl _ _))) hf
 have HN:=hid hn
 clear hf hn H
 go_wp2_with fail
 try simp only [Exit.inBlock,Exit.then]
 refine bodyPost_ret (v:=.agg #[.bool false,.int .i64 0,.int .i64 0,.string ⟨#[]⟩,.bool false,.slice none 0 0]) (by simp [results,results393,go_sem, *]) rfl ⟨rfl,(by (repeat' (first|refine QF.new ?_ aM tq5 _|(refine QF.alloc ?_ aM _)|(refine QF.drewN ?_ aM _)|(refine QF.drew ?_ aM)|refine QF.set ?_ (by first|rfl|(simp;done)) _|assumption|exact Hid.out aM|exact QF.refl _ _))),(by repeat' (first|refine Rt.setO ?_ tq5 tq5 _|refine Rt.below ?_ (qR.alloc qL _)|refine Rt.below ?_ (below_drewN' qR _)|refine Rt.below ?_ (Below.drew qR)|assumption|exact Hid.out aM))⟩
structure Bk (b:Nat) (l:List Value) (W:World):Prop where
 lt:b<W.heap.size
 c:∀i v,l[i]?=some v→W.cell? ⟨b,i,none⟩=some v
 z:∀i,i<l.length→W.frozen? ⟨b,i,none⟩=false
theorem Bk.of{b:Nat}{l:List Value}{W W':World}(h:Bk b l W)(hs:W.heap.size≤W'.heap.size)(hc:∀i,W'.cell? ⟨b,i,none⟩=W.cell? ⟨b,i,none⟩)(hz:∀i,W'.frozen? ⟨b,i,none⟩=W.frozen? ⟨b,i,none⟩): Bk b l W':=
 ⟨Nat.lt_of_lt_of_le h.lt hs,fun i v hv=>(hc i).trans (h.c i v hv),fun i hi=>(hz i).trans (h.z i hi)⟩
theorem Bk.below{b:Nat}{l:List Value}{W W':World}(h:Bk b l W)(hb:Below W.heap.size W W'): Bk b l W':=h.of hb.size (fun i=>hb.cell (p:=⟨b,i,none⟩) h.lt) (fun i=>hb.frozen (p:=⟨b,i,none⟩) h.lt)
theorem Bk.qf{b r:Nat}{l:List Value}{W W':World}(h:Bk b l W)(hb:QF r W W')(hne:r≠b): Bk b l W':=h.of hb.gr.size (fun i=>hb.far h.lt hne) (fun i=>hb.farz h.lt hne)
theorem Bk.setO{b:Nat}{l:List Value}{W:World}(h:Bk b l W){a:Addr}(h1:a.block≠b)(v:Value): Bk b l (W.setCell a v):=
 h.of (by simp [World.setCell]) (fun c=>qO (by intro e;exact h1 (by rw [e]))) (fun c=>qF)
theorem Bk.new(W:World)(vs:Array Value)(t:TypeId): Bk W.heap.size vs.toList (W.alloc (.cells vs t)):=by
 refine ⟨by simp,fun i v hv=>?_,fun i hi=>?_⟩
 ·have hv2:vs[i]?=some v:=by simpa using hv
  simp [go_sem,hv2]
 ·simp [go_sem]
structure CX (w0:World) (r g:Nat) (ts:List Tok) (en dp:Int) (L:List (Nat × List Value)) (W:World):Prop where
 rt:Rt W r g ts en dp
 qf:QF r w0 W
 bs:∀q∈L,Bk q.1 q.2 W
 ne:∀q∈L,w0.heap.size≤q.1∧r≠q.1∧q.1≠g
theorem CX.start{w:World}{r g:Nat}{ts:List Tok}{en dp:Int}(h:Rt w r g ts en dp): CX w r g ts en dp [] w:=⟨h,QF.refl _ _,by simp,by simp⟩
theorem CX.below{w0 W W':World}{r g:Nat}{ts:List Tok}{en dp:Int}{L:List (Nat × List Value)}(h:CX w0 r g ts en dp L W)(hb:Below W.heap.size W W'): CX w0 r g ts en dp L W':=
 ⟨h.rt.below hb,h.qf.trans (QF.below hb),fun q hq=>(h.bs q hq).below hb,h.ne⟩
theorem CX.add{w0 W:World}{r g:Nat}{ts:List Tok}{en dp:Int}{L:List (Nat × List Value)}(h:CX w0 r g ts en dp L W)(vs:Array Value)(t:TypeId): CX w0 r g ts en dp ((W.heap.size,vs.toList)::L) (W.alloc (.cells vs t)):=by
 have h1:=h.below ((Below.refl W.heap.size W).alloc qL (.cells vs t))
 refine ⟨h1.rt,h1.qf,fun q hq=>?_,fun q hq=>?_⟩
 ·rcases List.mem_cons.1 hq with rfl|hq
  ·exact Bk.new W vs t
  ·exact h1.bs q hq
 ·rcases List.mem_cons.1 hq with rfl|hq
  ·exact ⟨h.qf.gr.size,Nat.ne_of_lt h.rt.lt,(Nat.ne_of_lt h.rt.glt).symm⟩
  ·exact h1.ne q hq
theorem CX.step{w0 W W':World}{r g:Nat}{ts:List Tok}{en dp:Int}{L:List (Nat × List Value)}(h:CX w0 r g ts en dp L W){ts':List Tok}{dp':Int}(hf:QF r W W')(hn:Rt W' r g ts' en dp'): CX w0 r g ts' en dp' L W':=
 ⟨hn,h.qf.trans hf,fun q hq=>(h.bs q hq).qf hf (h.ne q hq).2.1,h.ne⟩
theorem CX.sub{w0 W:World}{r g:Nat}{ts:List Tok}{en dp:Int}{L L':List (Nat × List Value)}(h:CX w0 r g ts en dp L W)(hs:∀q∈L',q∈L): CX w0 r g ts en dp L' W:=⟨h.rt,h.qf,fun q hq=>h.bs q (hs q hq),fun q hq=>h.ne q (hs q hq)⟩
theorem CX.setN{w0 W:World}{r g:Nat}{ts:List Tok}{en dp:Int}{L:List (Nat × List Value)}(h:CX w0 r g ts en dp L W){a:Addr}(h0:w0.heap.size≤a.block)(hr:r<w0.heap.size)(h2:a.block≠g)(hL:∀q∈L,a.block≠q.1)(v:Value): CX w0 r g ts en dp L (W.setCell a v):=
 ⟨h.rt.setO oM h2 v,h.qf.new hr h0 v,fun q hq=>(h.bs q hq).setO (hL q hq) v,h.ne⟩
theorem CX.setD{w0 W:World}{r g:Nat}{ts:List Tok}{en dp:Int}{L:List (Nat × List Value)}(h:CX w0 r g ts en dp L W)(d:Int): CX w0 r g ts en d L (W.setCell ⟨r,4,none⟩ (.int .i64 d)):=
 ⟨h.rt.setD d,h.qf.set rfl _,fun q hq=>(h.bs q hq).setO (h.ne q hq).2.1 _,h.ne⟩
theorem CX.cell{w0 W:World}{r g:Nat}{ts:List Tok}{en dp:Int}{L:List (Nat × List Value)}(h:CX w0 r g ts en dp L W){b:Nat}{l:List Value}(hm:(b,l)∈L)(i:Nat)(v:Value)(hv:l[i]?=some v): W.cell? ⟨b,i,none⟩=some v:=(h.bs _ hm).c i v hv
theorem CX.fz{w0 W:World}{r g:Nat}{ts:List Tok}{en dp:Int}{L:List (Nat × List Value)}(h:CX w0 r g ts en dp L W){b:Nat}{l:List Value}(hm:(b,l)∈L)(i:Nat)(hi:i<l.length): W.frozen? ⟨b,i,none⟩=false:=(h.bs _ hm).z i hi
def xvL (i:Int) (la:Bool) (lk ln:Int) (ra:Bool) (rk rn:Int):List Value:=[.int .i64 4,.slice none 0 0,.bool false,.slice none 0 0,.int .i64 i,.bool la,.int .i64 lk,.int .i64 ln,.string ⟨#[]⟩,.bool false,.slice none 0 0,.bool ra,.int .i64 rk,.int .i64 rn,.string ⟨#[]⟩,.bool false,.slice none 0 0]
abbrev z17:List Value:=[.int .i64 0,.slice none 0 0,.bool false,.slice none 0 0,.int .i64 0,.bool false,.int .i64 0,.int .i64 0,.string ⟨#[]⟩,.bool false,.slice none 0 0,.bool false,.int .i64 0,.int .i64 0,.string ⟨#[]⟩,.bool false,.slice none 0 0]
structure Kx (S:List Nat) (w w':World):Prop where
 os:w'.os=w.os
 tape:w'.tape=w.tape
 output:w'.output=w.output
 size:w.heap.size≤w'.heap.size
 block:∀k,k<w.heap.size→k ∉ S→w'.heap[k]?=w.heap[k]?
theorem Kx.refl(S:List Nat)(w:World): Kx S w w:=⟨rfl,rfl,rfl,qL,fun _ _ _=>rfl⟩
theorem Kx.trans{S:List Nat}{a b c:World}(h:Kx S a b)(k:Kx S b c): Kx S a c:=⟨k.os.trans h.os,k.tape.trans h.tape,k.output.trans h.output,Nat.le_trans h.size k.size,fun j hj hS=>(k.block j (Nat.lt_of_lt_of_le hj h.size) hS).trans (h.block j hj hS)⟩
theorem Kx.of{S:List Nat}{w w':World}(h:Below w.heap.size w w'): Kx S w w':=⟨h.os,h.tape,h.output,h.size,fun k hk _=>h.block k hk⟩
theorem Kx.step{S:List Nat}{w W W':World}(h:Kx S w W)(hb:Below W.heap.size W W'): Kx S w W':=h.trans (Kx.of hb)
theorem Kx.sub{S S':List Nat}{w w':World}(h:Kx S w w')(hs:∀k∈S,k∈S'): Kx S' w w':=⟨h.os,h.tape,h.output,h.size,fun k hk hn=>h.block k hk fun hm=>hn (hs k hm)⟩
theorem Kx.set{S:List Nat}{w W:World}(h:Kx S w W){a:Addr}(ha:a.block∈S∨w.heap.size≤a.block)(v:Value): Kx S w (W.setCell a v):=
 ⟨h.os,h.tape,h.output,by simpa [World.setCell] using h.size,fun k hk hS=>(Below.heap_setCell _ _ _ _ (by intro e;subst e;rcases ha with ha|ha;exact hS ha;omega)).trans (h.block k hk hS)⟩
theorem Kx.alloc{S:List Nat}{w W:World}(h:Kx S w W)(o:Obj): Kx S w (W.alloc o):=h.step (qR.alloc qL o)
theorem Kx.drew{S:List Nat}{w W:World}(h:Kx S w W): Kx S w W.drew:=h.step qR.drew
theorem Kx.drewN{S:List Nat}{w W:World}(h:Kx S w W)(n:Nat): Kx S w (W.drewN n):=h.step (below_drewN' qR n)
theorem Kx.cell{S:List Nat}{w W:World}(h:Kx S w W){p:Addr}(hp:p.block<w.heap.size)(hn:p.block ∉ S): W.cell? p=w.cell? p:=World.cell?_of_block (h.block _ hp hn)
theorem Kx.frozen{S:List Nat}{w W:World}(h:Kx S w W){p:Addr}(hp:p.block<w.heap.size)(hn:p.block ∉ S): W.frozen? p=w.frozen? p:=World.frozen?_of_block (h.block _ hp hn)
theorem Kx.bel{S:List Nat}{w0 w w':World}(h:Kx S w w')(h0:Below w0.heap.size w0 w)(hS:∀k∈S,w0.heap.size≤k): Below w0.heap.size w0 w':=
 h0.trans ⟨h.os,h.tape,h.output,h.size,fun k hk=>h.block k (Nat.lt_of_lt_of_le hk h0.size) fun hm=>by have:=hS k hm;omega⟩
theorem Bk.kx{S:List Nat}{b:Nat}{l:List Value}{w w':World}(h:Bk b l w)(k:Kx S w w')(hn:b ∉ S): Bk b l w':=h.of k.size (fun i=>k.cell (p:=⟨b,i,none⟩) h.lt hn) (fun i=>k.frozen (p:=⟨b,i,none⟩) h.lt hn)
theorem Bk.one{b:Nat}{v:Value}{W:World}(lt:b<W.heap.size)(c:W.cell? ⟨b,0,none⟩=some v)(z:W.frozen? ⟨b,0,none⟩=false): Bk b [v] W:=by
 refine ⟨lt,fun i u hu=>?_,fun i hi=>?_⟩
 ·rcases i with _|i
  ·simp at hu;subst hu;exact c
  ·simp at hu
 ·rcases i with _|i
  ·exact z
  ·simp at hi
theorem Bk.two{b:Nat}{u v:Value}{W:World}(lt:b<W.heap.size)(c0:W.cell? ⟨b,0,none⟩=some u)(c1:W.cell? ⟨b,1,none⟩=some v)(z0:W.frozen? ⟨b,0,none⟩=false)(z1:W.frozen? ⟨b,1,none⟩=false): Bk b [u,v] W:=by
 refine ⟨lt,fun i x hx=>?_,fun i hi=>?_⟩
 ·rcases i with _|_|i
  ·simp at hx;subst hx;exact c0
  ·simp at hx;subst hx;exact c1
  ·simp at hx
 ·rcases i with _|_|i
  ·exact z0
  ·exact z1
  ·simp at hi;omega
theorem Bk.setS{b:Nat}{l:List Value}{W:World}(h:Bk b l W)(i:Nat)(hi:i<l.length)(v:Value): Bk b (l.set i v) (W.setCell ⟨b,i,none⟩ v):=by
 refine ⟨by simpa [World.setCell] using h.lt,fun j u hj=>?_,fun j hj=>qF.trans (h.z j (by simpa using hj))⟩
 by_cases e:i=j
 ·subst e
  rw [List.getElem?_set_self hi] at hj
  injection hj with hj;subst hj
  exact World.cell?_setCell_same' _ _ _ (by rw [h.c i _ (List.getElem?_eq_getElem hi)];rfl)
 ·rw [List.getElem?_set_ne e] at hj
  exact (qO (by intro e2;injection e2 with _ e2 _;exact e oM)).trans (h.c j u hj)
end Nn
namespace Nn
open Go.RowKit
open Np
theorem at_l(s:ByteArray)(k:Nat)(b:UInt8)(h:s.data.toList[k]?=some b): ∃hk:k<s.size,s[k]'hk=b:=by
 obtain ⟨hl,h2⟩ :=List.getElem?_eq_some_iff.1 h
 exact ⟨by rw [Lib.size_eq];exact hl,h2⟩
theorem ntrim(mi:Bool)(D:ByteArray)(P:Int)(hs:D.size≤200)(hd:∀b∈D.data.toList,Dg b)(hP1:-3000000000000≤P)(hP2:P≤3000000000000)(w:World): Calls prog 408 #[.agg #[.bool mi,.string D,.int .i64 P]] w fun e w'=>∃D':ByteArray,e=.returned (.agg #[.bool (va mi (dig D.data.toList) P).mi,.string D',.int .i64 (va mi (dig D.data.toList) P).p])∧dig D'.data.toList=(va mi (dig D.data.toList) P).T∧(∀b∈D'.data.toList,Dg b)∧Below w.heap.size w w':=by
 have hsl:D.data.toList.length≤200:=by rw [←Lib.size_eq];exact hs
 have hll:=lead_le (dig D.data.toList)
 have hdl:(dig D.data.toList).length=D.data.toList.length:=by simp [dig]
 obtain ⟨ld,hld⟩:∃ld,lead (dig D.data.toList)=ld:=⟨_,rfl⟩
 rw [hld,hdl] at hll
 have HD:=hid hd
 clear hd
 go_enter func408,ntmps408
 go_wp2_with fail
 have hB0:Hid ((Bk w.heap.size [.bool mi,.string D,.int .i64 (P-((0:Nat):Int))] ((w.alloc (.cells #[.bool mi,.string D,.int .i64 P] 475)).alloc (.cells #[.bool false,.string ⟨#[]⟩,.int .i64 0] 475))∧Bk (w.heap.size+1) [.bool false,.string ⟨#[]⟩,.int .i64 0] ((w.alloc (.cells #[.bool mi,.string D,.int .i64 P] 475)).alloc (.cells #[.bool false,.string ⟨#[]⟩,.int .i64 0] 475)))∧Below w.heap.size w ((w.alloc (.cells #[.bool mi,.string D,.int .i64 P] 475)).alloc (.cells #[.bool false,.string ⟨#[]⟩,.int .i64 0] 475))):=by
  refine hid ⟨⟨?_,?_⟩,tq4⟩
  ·have:=(Bk.new w #[.bool mi,.string D,.int .i64 P] 475).below (qR.alloc qL (.cells #[.bool false,.string ⟨#[]⟩,.int .i64 0] 475))
   simpa using this
  ·have:=Bk.new (w.alloc (.cells #[.bool mi,.string D,.int .i64 P] 475)) #[.bool false,.string ⟨#[]⟩,.int .i64 0] 475
   simpa using this
 generalize hB:w.heap.size=B at hB0 ⊢
 go_loopg [] ld (fun g wr=>∃(j:Nat) (u:ByteArray),j≤ld∧g=ld-j∧Hid (u.data.toList=D.data.toList.drop j)∧Hid ((Bk B [.bool mi,.string u,.int .i64 (P-(j:Int))] wr∧Bk (B+1) [.bool false,.string ⟨#[]⟩,.int .i64 0] wr)∧Below B w wr))
 case atStart=>exact ⟨0,D,by omega,rfl,hid sM,hB0⟩
 case round=>
  clear hB0
  obtain ⟨j,u,hj,rfl,hu,hb⟩ :=hrel
  have b1:=hb.out.1.1.c 1 _ rfl
  have b2:=hb.out.1.1.c 2 _ rfl
  have y1:=hb.out.1.1.z 1 sM
  have y2:=hb.out.1.1.z 2 sM
  have bl:=hb.out.1.1.lt
  by_cases hlt:j<ld
  ·have h48:u.data.toList[0]?=some 48:=by
    have h1:=lead_in _ j (by rw [hld];exact hlt)
    rw [dig_at] at h1
    cases hb:D.data.toList[j]? with
    | none=>rw [hb] at h1;simp at h1
    | some b=>
     rw [hb] at h1
     simp only [Option.map_some,Option.some.injEq] at h1
     rw [(dv_zero (HD.out b (List.mem_of_getElem? hb))).1 h1] at hb
     rw [hu.out,List.getElem?_drop];exact hb
   obtain ⟨h0,hb48⟩ :=at_l u 0 48 h48
   have hX:=idx_run u 0 h0 0 rfl
   rw [hb48] at hX
   have e0:=str_e u false (by cases hul:u.data.toList with
    | nil=>rw [hul] at h48;simp at h48
    | cons a l=>rfl)
   obtain ⟨u2,hu2,hul2⟩ :=ext_e u 1
   have hul3:Hid (u2.data.toList=D.data.toList.drop (j+1)):=hid (by rw [hul2,hu.out,List.drop_drop,Nat.add_comm])
   clear hul2
   have w1:IntKind.i64.wrap (P-(j:Int)-1)=P-(j:Int)-1:=IntWalk.i64_in _ oM
   clear hb48 h48
   go_wp2_with fail
   go_roundg (ld-(j+1))
   case measure=>go_light;omega
   case rel=>go_light;exact ⟨j+1,u2,by omega,rfl,hul3,hid ⟨⟨by rw [show P-((j+1:Nat):Int)=P-(j:Int)-1 by omega];exact (hb.out.1.1.setS 1 sM (.string u2)).setS 2 sM (.int .i64 (P-(j:Int)-1)),(hb.out.1.2.setO (by show B≠B+1;omega) _).setO (by show B≠B+1;omega) _⟩,(hb.out.2.setCell (by show B≤B;omega) _).setCell (by show B≤B;omega) _⟩⟩
  ·obtain rfl:j=ld:=oM
   have hout:=lead_out (dig D.data.toList)
   rw [hld,dig_at] at hout
   have hud:∀b∈u.data.toList,Dg b:=fun b hb=>HD.out b (by rw [hu.out] at hb;exact List.mem_of_mem_drop hb)
   have HU:=hid hud
   clear hud
   cases hul:u.data.toList with
   | nil=>
    have e0:=str_e u true (by rw [hul];rfl)
    clear hul
    go_wp2_with fail
    clear e0 b1 b2 y1 y2 bl
    have hxl:u.data.toList.length≤200:=by rw [hu.out,List.length_drop];omega
    obtain ⟨X,hX0⟩:∃X,u.data.toList=X:=⟨_,rfl⟩
    rw [hX0] at hxl
    obtain ⟨sl,hsl2⟩:∃sl,(shut (dig X)).length=sl:=⟨_,rfl⟩
    have hslX:sl≤X.length:=by have:=shut_len (dig X);rw [hsl2] at this;simpa [dig] using this
    have HXD:Hid (∀b∈X,Dg b):=hid (by rw [←hX0];exact HU.out)
    have HS:Hid (shut (dig X)=(dig X).take sl):=hid (by rw [←hsl2];exact (shut_take (dig X)).symm)
    have HXu:Hid (X=D.data.toList.drop j):=hid (by rw [←hX0];exact hu.out)
    have hu0:Hid (u.data.toList=X.take X.length):=hid (by rw [List.take_length];exact hX0)
    clear HU hu hout
    go_loopg [] (X.length-sl) (fun g wr=>∃(k:Nat) (u:ByteArray),sl≤k∧k≤X.length∧g=k-sl∧Hid (u.data.toList=X.take k)∧Hid ((Bk B [.bool mi,.string u,.int .i64 (P-(j:Int))] wr∧Bk (B+1) [.bool false,.string ⟨#[]⟩,.int .i64 0] wr)∧Below B w wr))
    case atStart=>exact ⟨X.length,u,hslX,qL,rfl,hu0,hb⟩
    case round=>
     clear hb hu0 hX0
     obtain ⟨k,u,hk1,hk2,rfl,hu,hb⟩ :=hrel
     have b0:=hb.out.1.1.c 0 _ rfl
     have b1:=hb.out.1.1.c 1 _ rfl
     have b2:=hb.out.1.1.c 2 _ rfl
     have y0:=hb.out.1.1.z 0 sM
     have y1:=hb.out.1.1.z 1 sM
     have y2:=hb.out.1.1.z 2 sM
     have r0:=hb.out.1.2.c 0 _ rfl
     have r1:=hb.out.1.2.c 1 _ rfl
     have r2:=hb.out.1.2.c 2 _ rfl
     have q0:=hb.out.1.2.z 0 sM
     have q1:=hb.out.1.2.z 1 sM
     have q2:=hb.out.1.2.z 2 sM
     have bl:=hb.out.1.1.lt
     have rl:=hb.out.1.2.lt
     have hus:u.size=k:=by rw [Lib.size_eq,hu.out,List.length_take];omega
     by_cases hlt:sl<k
     ·have h48:u.data.toList[k-1]?=some 48:=by
       have h1:=shut_out (dig X) (k-1) (by rw [hsl2];omega) (by simp [dig];omega)
       rw [dig_at] at h1
       cases hb:X[k-1]? with
       | none=>rw [hb] at h1;simp at h1
       | some b=>
        rw [hb] at h1
        simp only [Option.map_some,Option.some.injEq] at h1
        rw [(dv_zero (HXD.out b (List.mem_of_getElem? hb))).1 h1] at hb
        rw [hu.out,List.getElem?_take,if_pos (by omega)];exact hb
      obtain ⟨h0,hb48⟩ :=at_l u (k-1) 48 h48
      have hX:=idx_run u (k-1) h0 ((k:Int)-1) oM
      rw [hb48] at hX
      have e0:=str_e u false (by cases hul:u.data.toList with
       | nil=>rw [hul] at h48;simp at h48
       | cons a l=>rfl)
      have w1:IntKind.i64.wrap ((k:Int)-1)=(k:Int)-1:=IntWalk.i64_in _ oM
      clear hb48 h48
      obtain ⟨u2,hu2,hul2⟩ :=ext_t u (k-1)
      have hul3:Hid (u2.data.toList=X.take (k-1)):=hid (by rw [hul2,hu.out,List.take_take];congr 1;omega)
      clear hul2
      go_wp2_with fail
      go_roundg (k-1-sl)
      case measure=>go_light;omega
      case rel=>go_light;exact ⟨k-1,u2,by omega,by omega,rfl,hul3,hid ⟨⟨hb.out.1.1.setS 1 sM (.string u2),hb.out.1.2.setO (by show B≠B+1;omega) _⟩,hb.out.2.setCell (by show B≤B;omega) _⟩⟩
     ·obtain rfl:k=sl:=oM
      have hdx:dig X=(dig D.data.toList).drop j:=by rw [HXu.out];simp [dig,List.map_drop]
      by_cases hz:k=0
      ·have hsh:shut (dig D.data.toList)=[]:=by
        rw [shut_lead0,hld,←hdx]
        exact List.length_eq_zero_iff.1 (hsl2.trans hz)
       have hva:Hid (va mi (dig D.data.toList) P=⟨false,[],0⟩):=hid (by unfold va;rw [if_pos hsh])
       have e0:=str_e u true (by rw [hu.out,hz];rfl)
       clear hdx hsh
       go_wp2_with fail
       try simp only [Exit.inBlock,Exit.then]
       refine bodyPost_ret (v:=.agg #[.bool false,.string ⟨#[]⟩,.int .i64 0]) (by simp [results,results408,go_sem, *]) rfl ⟨⟨#[]⟩,by rw [hva.out],by rw [hva.out];rfl,by simp,?_⟩
       rw [hB]
       exact ((hb.out.2.setCell (by show B≤B+1;omega) _).setCell (by show B≤B+1;omega) _).setCell (by show B≤B+1;omega) _
      ·have hsh:shut (dig X)≠[]:=fun h=>hz (by rw [←hsl2,h];rfl)
       have hsh2:shut (dig D.data.toList)≠[]:=fun h=>hsh (by rw [hdx,←hld];exact (shut_lead0 _).1 h)
       have hva:Hid (va mi (dig D.data.toList) P=⟨mi,shut (dig X),P-(j:Int)⟩):=hid (by unfold va;rw [if_neg hsh2,hld,←hdx])
       have hut:Hid (dig u.data.toList=shut (dig X)):=hid (by rw [hu.out,HS.out];simp [dig,List.map_take])
       have hud:Hid (∀b∈u.data.toList,Dg b):=hid (by rw [hu.out];exact fun b hb=>HXD.out b (List.mem_of_mem_take hb))
       have hlast:=shut_in (dig X) hsh
       rw [hsl2,dig_at] at hlast
       obtain ⟨b,hb1⟩:∃b,X[k-1]?=some b:=⟨_,List.getElem?_eq_getElem oM⟩
       rw [hb1] at hlast
       obtain ⟨h0,hbu⟩ :=at_l u (k-1) b (by rw [hu.out,List.getElem?_take,if_pos (by omega)];exact hb1)
       have hX:=idx_run u (k-1) h0 ((k:Int)-1) oM
       rw [hbu] at hX
       have hne:((b.toNat:Int)==48)=false:=by
        rw [beq_eq_false_iff_ne]
        intro h
        apply hlast
        simp only [Option.map_some,Option.some.injEq]
        unfold dv;omega
       have e0:=str_e u false (by cases hul:u.data.toList with
        | nil=>have:=hus;rw [Lib.size_eq,hul] at this;simp at this;omega
        | cons a l=>rfl)
       have w1:IntKind.i64.wrap ((k:Int)-1)=(k:Int)-1:=IntWalk.i64_in _ oM
       clear hdx hsh hsh2 hlast hb1 hbu
       go_wp2_with fail
       try simp only [Exit.inBlock,Exit.then]
       refine bodyPost_ret (v:=.agg #[.bool mi,.string u,.int .i64 (P-(j:Int))]) (by simp [results,results408,go_sem, *]) rfl ⟨u,by rw [hva.out],by rw [hva.out];exact hut.out,hud.out,?_⟩
       rw [hB]
       exact ((hb.out.2.setCell (by show B≤B+1;omega) _).setCell (by show B≤B+1;omega) _).setCell (by show B≤B+1;omega) _
   | cons b l=>
    have e0:=str_e u false (by rw [hul];rfl)
    obtain ⟨h0,hb0⟩ :=at_l u 0 b (by rw [hul];rfl)
    have hX:=idx_run u 0 h0 0 rfl
    rw [hb0] at hX
    have hne:((b.toNat:Int)==48)=false:=by
     rw [beq_eq_false_iff_ne]
     intro h
     apply hout
     have:D.data.toList[j]?=some b:=by
      have h2:u.data.toList[0]?=some b:=by rw [hul];rfl
      rw [hu.out,List.getElem?_drop] at h2;exact h2
     rw [this]
     simp only [Option.map_some,Option.some.injEq]
     unfold dv;omega
    clear hb0 hul
    go_wp2_with fail
    clear hne
    clear e0 b1 b2 y1 y2 bl
    have hxl:u.data.toList.length≤200:=by rw [hu.out,List.length_drop];omega
    obtain ⟨X,hX0⟩:∃X,u.data.toList=X:=⟨_,rfl⟩
    rw [hX0] at hxl
    obtain ⟨sl,hsl2⟩:∃sl,(shut (dig X)).length=sl:=⟨_,rfl⟩
    have hslX:sl≤X.length:=by have:=shut_len (dig X);rw [hsl2] at this;simpa [dig] using this
    have HXD:Hid (∀b∈X,Dg b):=hid (by rw [←hX0];exact HU.out)
    have HS:Hid (shut (dig X)=(dig X).take sl):=hid (by rw [←hsl2];exact (shut_take (dig X)).symm)
    have HXu:Hid (X=D.data.toList.drop j):=hid (by rw [←hX0];exact hu.out)
    have hu0:Hid (u.data.toList=X.take X.length):=hid (by rw [List.take_length];exact hX0)
    clear HU hu hout
    go_loopg [] (X.length-sl) (fun g wr=>∃(k:Nat) (u:ByteArray),sl≤k∧k≤X.length∧g=k-sl∧Hid (u.data.toList=X.take k)∧Hid ((Bk B [.bool mi,.string u,.int .i64 (P-(j:Int))] wr∧Bk (B+1) [.bool false,.string ⟨#[]⟩,.int .i64 0] wr)∧Below B w wr))
    case atStart=>exact ⟨X.length,u,hslX,qL,rfl,hu0,hb⟩
    case round=>
     clear hb hu0 hX0
     obtain ⟨k,u,hk1,hk2,rfl,hu,hb⟩ :=hrel
     have b0:=hb.out.1.1.c 0 _ rfl
     have b1:=hb.out.1.1.c 1 _ rfl
     have b2:=hb.out.1.1.c 2 _ rfl
     have y0:=hb.out.1.1.z 0 sM
     have y1:=hb.out.1.1.z 1 sM
     have y2:=hb.out.1.1.z 2 sM
     have r0:=hb.out.1.2.c 0 _ rfl
     have r1:=hb.out.1.2.c 1 _ rfl
     have r2:=hb.out.1.2.c 2 _ rfl
     have q0:=hb.out.1.2.z 0 sM
     have q1:=hb.out.1.2.z 1 sM
     have q2:=hb.out.1.2.z 2 sM
     have bl:=hb.out.1.1.lt
     have rl:=hb.out.1.2.lt
     have hus:u.size=k:=by rw [Lib.size_eq,hu.out,List.length_take];omega
     by_cases hlt:sl<k
     ·have h48:u.data.toList[k-1]?=some 48:=by
       have h1:=shut_out (dig X) (k-1) (by rw [hsl2];omega) (by simp [dig];omega)
       rw [dig_at] at h1
       cases hb:X[k-1]? with
       | none=>rw [hb] at h1;simp at h1
       | some b=>
        rw [hb] at h1
        simp only [Option.map_some,Option.some.injEq] at h1
        rw [(dv_zero (HXD.out b (List.mem_of_getElem? hb))).1 h1] at hb
        rw [hu.out,List.getElem?_take,if_pos (by omega)];exact hb
      obtain ⟨h0,hb48⟩ :=at_l u (k-1) 48 h48
      have hX:=idx_run u (k-1) h0 ((k:Int)-1) oM
      rw [hb48] at hX
      have e0:=str_e u false (by cases hul:u.data.toList with
       | nil=>rw [hul] at h48;simp at h48
       | cons a l=>rfl)
      have w1:IntKind.i64.wrap ((k:Int)-1)=(k:Int)-1:=IntWalk.i64_in _ oM
      clear hb48 h48
      obtain ⟨u2,hu2,hul2⟩ :=ext_t u (k-1)
      have hul3:Hid (u2.data.toList=X.take (k-1)):=hid (by rw [hul2,hu.out,List.take_take];congr 1;omega)
      clear hul2
      go_wp2_with fail
      go_roundg (k-1-sl)
      case measure=>go_light;omega
      case rel=>go_light;exact ⟨k-1,u2,by omega,by omega,rfl,hul3,hid ⟨⟨hb.out.1.1.setS 1 sM (.string u2),hb.out.1.2.setO (by show B≠B+1;omega) _⟩,hb.out.2.setCell (by show B≤B;omega) _⟩⟩
     ·obtain rfl:k=sl:=oM
      have hdx:dig X=(dig D.data.toList).drop j:=by rw [HXu.out];simp [dig,List.map_drop]
      by_cases hz:k=0
      ·have hsh:shut (dig D.data.toList)=[]:=by
        rw [shut_lead0,hld,←hdx]
        exact List.length_eq_zero_iff.1 (hsl2.trans hz)
       have hva:Hid (va mi (dig D.data.toList) P=⟨false,[],0⟩):=hid (by unfold va;rw [if_pos hsh])
       have e0:=str_e u true (by rw [hu.out,hz];rfl)
       clear hdx hsh
       go_wp2_with fail
       try simp only [Exit.inBlock,Exit.then]
       refine bodyPost_ret (v:=.agg #[.bool false,.string ⟨#[]⟩,.int .i64 0]) (by simp [results,results408,go_sem, *]) rfl ⟨⟨#[]⟩,by rw [hva.out],by rw [hva.out];rfl,by simp,?_⟩
       rw [hB]
       exact ((hb.out.2.setCell (by show B≤B+1;omega) _).setCell (by show B≤B+1;omega) _).setCell (by show B≤B+1;omega) _
      ·have hsh:shut (dig X)≠[]:=fun h=>hz (by rw [←hsl2,h];rfl)
       have hsh2:shut (dig D.data.toList)≠[]:=fun h=>hsh (by rw [hdx,←hld];exact (shut_lead0 _).1 h)
       have hva:Hid (va mi (dig D.data.toList) P=⟨mi,shut (dig X),P-(j:Int)⟩):=hid (by unfold va;rw [if_neg hsh2,hld,←hdx])
       have hut:Hid (dig u.data.toList=shut (dig X)):=hid (by rw [hu.out,HS.out];simp [dig,List.map_take])
       have hud:Hid (∀b∈u.data.toList,Dg b):=hid (by rw [hu.out];exact fun b hb=>HXD.out b (List.mem_of_mem_take hb))
       have hlast:=shut_in (dig X) hsh
       rw [hsl2,dig_at] at hlast
       obtain ⟨b,hb1⟩:∃b,X[k-1]?=some b:=⟨_,List.getElem?_eq_getElem oM⟩
       rw [hb1] at hlast
       obtain ⟨h0,hbu⟩ :=at_l u (k-1) b (by rw [hu.out,List.getElem?_take,if_pos (by omega)];exact hb1)
       have hX:=idx_run u (k-1) h0 ((k:Int)-1) oM
       rw [hbu] at hX
       have hne:((b.toNat:Int)==48)=false:=by
        rw [beq_eq_false_iff_ne]
        intro h
        apply hlast
        simp only [Option.map_some,Option.some.injEq]
        unfold dv;omega
       have e0:=str_e u false (by cases hul:u.data.toList with
        | nil=>have:=hus;rw [Lib.size_eq,hul] at this;simp at this;omega
        | cons a l=>rfl)
       have w1:IntKind.i64.wrap ((k:Int)-1)=(k:Int)-1:=IntWalk.i64_in _ oM
       clear hdx hsh hsh2 hlast hb1 hbu
       go_wp2_with fail
       try simp only [Exit.inBlock,Exit.then]
       refine bodyPost_ret (v:=.agg #[.bool mi,.string u,.int .i64 (P-(j:Int))]) (by simp [results,results408,go_sem, *]) rfl ⟨u,by rw [hva.out],by rw [hva.out];exact hut.out,hud.out,?_⟩
       rw [hB]
       exact ((hb.out.2.setCell (by show B≤B+1;omega) _).setCell (by show B≤B+1;omega) _).setCell (by show B≤B+1;omega) _
theorem nside(mi:Bool)(D:ByteArray)(p:Int)(w:World): Calls prog 399 #[.agg #[.bool mi,.string D,.int .i64 p]] w fun e w'=>e=.returned (.int .i64 (if D.data.toList=[] then 0 else if mi then -1 else 1))∧Below w.heap.size w w':=by
 by_cases h:D.data.toList=[]
 ·have e0:=str_e D true (by rw [h];rfl)
  rw [if_pos h]
  go_enter func399,ntmps399
  go_wp2_with fail
  go_ret
  exact ⟨rfl,tq4⟩
 ·have e0:=str_e D false (by simpa using h)
  rw [if_neg h]
  cases mi
  ·go_enter func399,ntmps399
   go_wp2_with fail
   go_ret
   exact ⟨rfl,tq4⟩
  ·go_enter func399,ntmps399
   go_wp2_with fail
   go_ret
   exact ⟨rfl,tq4⟩
theorem run_copy_min{P:Program}(w:World)(dT sT ty elem:TypeId)(b o dLen dCap:Nat)(t:ByteArray)(hu:P.underlying dT=some (.slice elem))(hz:∀w,(Go.sizeOf elem).run P w=.ok 1 w)(hc:∀j,j<dLen→(w.cell? ⟨b,o+j,none⟩).isSome=true)(hf:∀j,j<dLen→w.frozen? ⟨b,o+j,none⟩=false):
  (Builtin.copy_ #[dT,sT] ty #[.slice (some ⟨b,o,none⟩) dLen dCap,.string t]).run P w=.ok (goInt (Nat.min t.size dLen)) (w.setCells b o ((t.data.toList.map fun x=>Value.int .u8 (x.toNat:Int)).take (Nat.min t.size dLen))):=by
 obtain ⟨n,hn⟩:∃n,Nat.min t.size dLen=n:=⟨_,rfl⟩
 have:n≤dLen:=by rw [←hn];exact Nat.min_le_right _ _
 have:((t.data.toList.map fun x=>Value.int .u8 (x.toNat:Int)).take n).length≤n:=by rw [List.length_take];exact Nat.min_le_left _ _
 have hst:=run_storeCells_cells (P:=P) b o ((t.data.toList.map fun x=>Value.int .u8 (x.toNat:Int)).take n) 0 w (fun j hj=>by simpa using hc j oM) (fun j hj=>by first|(simp;done)|simpa using hf j oM) (by
  intro v hv
  obtain ⟨x,_,rfl⟩ :=List.mem_map.1 (List.mem_of_mem_take hv)
  rfl)
 simp [Builtin.copy_,run_underlying hu,Builtin.lenOf,Builtin.firstCells,hz,hn]
 rw [hst]
 rfl
theorem step_copy_min{P:Program}{ops:Array Oper}{o:Oper}{a:Act}{w:World}{K:Act→World→Prop}{Q:Exit→Act→World→Prop}{E:Prop}(hg:o.guard=none)(d x:Operand)(dT sT:TypeId)(hop:o.op=Op.call { callee:=Callee.builtin Builtin.copy,args:=#[d,x],argTypes:=#[dT,sT] })(elem:TypeId)(hu:P.underlying dT=some (.slice elem))(hz:∀w,(Go.sizeOf elem).run P w=.ok 1 w)(b off dLen dCap:Nat)(hd:a.eval d=.slice (some ⟨b,off,none⟩) dLen dCap)(t:ByteArray)(hx:a.eval x=.string t)(hc:∀j,j<dLen→(w.cell? ⟨b,off+j,none⟩).isSome=true)(hf:∀j,j<dLen→w.frozen? ⟨b,off+j,none⟩=false)(hK:K (a.put o.dst (goInt (Nat.min t.size dLen))) (w.setCells b off ((t.data.toList.map fun x=>Value.int .u8 (x.toNat:Int)).take (Nat.min t.size dLen)))):
  if Region.wanted o (yielded ops a.tmps)=true then Oper.wp P o a w K Q else E:=by
 have hw:Region.wanted o (yielded ops a.tmps)=true:=by simp [Region.wanted,hg]
 rw [if_pos hw]
 have hrun:=run_copy_min (P:=P) w dT sT o.type elem b off dLen dCap t hu hz hc hf
 unfold Oper.wp
 simp [execOp,hop,resolve,invoke,builtin,hd,hx,hrun,Result.andThen]
 exact hK
def bt (A:List Nat) (j:Nat):Nat:=match A[j]? with|none=>0|some a=>48+a
def r20 (A:List Nat):List Value:=(List.range 20).map fun j=>.int .u8 (bt A j:Nat)
theorem lexn_step(n:Nat)(A B:List Nat)(i:Nat): lexn (n+1) (A.drop i) (B.drop i)=if bt A i<bt B i then -1 else if bt B i<bt A i then 1 else lexn n (A.drop (i+1)) (B.drop (i+1)):=by
 have h:∀A:List Nat,(match A.drop i with|[]=>0|a::_=>48+a)=bt A i:=by
  intro A
  unfold bt
  cases hA:A[i]? with
  | none=>
   rw [List.drop_eq_nil_of_le (by simpa using hA)]
  | some a=>
   obtain ⟨hl,rfl⟩ :=List.getElem?_eq_some_iff.1 hA
   rw [List.drop_eq_getElem_cons hl]
 show (if (match A.drop i with|[]=>0|a::_=>48+a)<(match B.drop i with|[]=>0|b::_=>48+b) then -1 else if (match B.drop i with|[]=>0|b::_=>48+b)<(match A.drop i with|[]=>0|a::_=>48+a) then 1 else lexn n (A.drop i).tail (B.drop i).tail)=_
 rw [h A,h B,List.tail_drop,List.tail_drop]
theorem bt_at(D:ByteArray)(hd:∀b∈D.data.toList,Dg b)(j:Nat): (match D.data.toList[j]? with|none=>0|some b=>b.toNat)=bt (dig D.data.toList) j:=by
 unfold bt
 rw [dig_at]
 cases h:D.data.toList[j]? with
 | none=>rfl
 | some b=>
  have:=hd b (List.mem_of_getElem? h)
  simp only [Option.map_some]
  unfold dv;have:=this.1;omega
theorem r20_at(A:List Nat)(j:Nat)(h:j<20): (r20 A)[j]?=some (.int .u8 (bt A j:Nat)):=by simp [r20,h]
theorem r20_len(A:List Nat): (r20 A).length=20:=by simp [r20]
theorem setCells_size(X:Nat): ∀(vs:List Value) (o:Nat) (w:World),(w.setCells X o vs).heap.size=w.heap.size:=by
 intro vs
 induction vs with
 | nil=>intro o w;rfl
 | cons v vs ih=>intro o w;rw [World.setCells,ih];simp [World.setCell]
theorem bk_copy{X:Nat}{w:World}(h:Bk X (r20 []) w)(D:ByteArray)(hd:∀b∈D.data.toList,Dg b): Bk X (r20 (dig D.data.toList)) (w.setCells X 0 ((D.data.toList.map fun x=>Value.int .u8 (x.toNat:Int)).take (Nat.min D.size 20))):=by
 obtain ⟨n,hn⟩:∃n,Nat.min D.size 20=n:=⟨_,rfl⟩
 have hm:n≤20:=by rw [←hn];exact Nat.min_le_right _ _
 have hm2:n≤D.size:=by rw [←hn];exact Nat.min_le_left _ _
 have hm3:∀j,j<20→j<D.size→j<n:=fun j h1 h2=>by rw [←hn];exact Nat.lt_min.2 ⟨h2,h1⟩
 rw [hn]
 have hlen:((D.data.toList.map fun x=>Value.int .u8 (x.toNat:Int)).take n).length=n:=by
  rw [List.length_take,List.length_map,←Lib.size_eq];omega
 refine ⟨by rw [setCells_size];exact h.lt,fun j v hv=>?_,fun j hj=>?_⟩
 ·have hj:j<20:=by have:=(List.getElem?_eq_some_iff.1 hv).1;rwa [r20_len] at this
  rw [r20_at _ j hj] at hv
  injection hv with hv
  subst hv
  rw [←bt_at D hd]
  by_cases hlt:j<n
  ·have h1:=World.cell?_setCells_in X ((D.data.toList.map fun x=>Value.int .u8 (x.toNat:Int)).take n) 0 w (fun k hk=>by
    rw [Nat.zero_add,h.c k _ (r20_at [] k (by rw [hlen] at hk;omega))];rfl) j (by rw [hlen];exact hlt)
   rw [Nat.zero_add] at h1
   rw [h1]
   have hjd:j<D.data.toList.length:=by rw [←Lib.size_eq];omega
   simp [List.getElem?_eq_getElem hjd]
  ·rw [World.cell?_setCells_out X _ 0 w _ (fun _ _=>by right;show _≤j;rw [hlen];omega)]
   rw [h.c j _ (r20_at [] j hj)]
   have hjd:D.data.toList.length≤j:=by
    rw [←Lib.size_eq]
    rcases Nat.lt_or_ge j D.size with h3|h3
    ·exact absurd (hm3 j hj h3) hlt
    ·exact h3
   simp [bt,List.getElem?_eq_none hjd]
 ·rw [World.frozen?_setCells]
  exact h.z j (by rw [r20_len] at hj ⊢;exact hj)
theorem bk_setCells{b X:Nat}{l:List Value}{w:World}(h:Bk b l w)(hne:b≠X)(vs:List Value)(o:Nat): Bk b l (w.setCells X o vs):=
 h.of (by rw [setCells_size];exact qL) (fun i=>World.cell?_setCells_out X vs o w _ (fun e _=>absurd e hne)) (fun i=>World.frozen?_setCells X vs o w _)
theorem below_setCells2{B X:Nat}{w0 w:World}(h:Below B w0 w)(hX:B≤X): ∀(vs:List Value) (o:Nat),Below B w0 (w.setCells X o vs):=by
 intro vs
 induction vs generalizing w with
 | nil=>intro o;exact h
 | cons v vs ih=>intro o;exact ih (h.setCell hX v) (o+1)
end Nn
end Go.Proofs.YtjcioljdlfdnbaaGreatDoor
