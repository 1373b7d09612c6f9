/- Part 22: lemmas for TopNumber; no conditions. -/
import Derived.Test.YtjcioljdlfdnbaaGreatDoorH12
set_option linter.unusedVariables false
set_option linter.unusedSimpArgs false
set_option maxRecDepth 100000
set_option maxHeartbeats 2000000
open Go.Proofs.Tryz
namespace Go.Proofs.YtjcioljdlfdnbaaGreatDoor
namespace Nn
open Go.RowKit
open Np
theorem dec_step(a:Nat)(h:¬a<10): Lib.decDigits a=Lib.decDigits (a / 10)++[UInt8.ofNat (48+a % 10)]:=by
 rw [Lib.decDigits,dif_neg h]
def InS (D:List UInt8) (neg:Bool) (m:Int) (X:List UInt8) (mm:Nat):Prop:=
 (∃a:Nat,m=(if neg then -(a:Int) else (a:Int))∧a<10 ^ 16∧(a=0→X=[])∧D=Lib.decDigits a++X∧mm=(Lib.decDigits a).length)∨(m=0∧X≠[]∧D=X∧mm=0)
theorem inS_step{D:List UInt8}{neg:Bool}{a:Nat}{X:List UInt8}(ha:a<10 ^ 16)(hD:D=Lib.decDigits a++X):
  ∃mm,InS D neg (if neg then -((a / 10:Nat):Int) else ((a / 10:Nat):Int)) (UInt8.ofNat (48+a % 10)::X) mm∧mm<(Lib.decDigits a).length:=by
 by_cases h:a<10
 ·refine ⟨0,.inr ⟨?_,by simp,?_,rfl⟩,?_⟩
  ·have:a / 10=0:=oM
   rw [this];cases neg <;> rfl
  ·rw [hD,Lib.decDigits_one h,Nat.mod_eq_of_lt h];rfl
  ·rw [Lib.decDigits_one h];simp
 ·refine ⟨(Lib.decDigits (a / 10)).length,.inl ⟨a / 10,rfl,by omega,fun h0=>by omega,?_,rfl⟩,?_⟩
  ·rw [hD,dec_step a h];simp
  ·rw [dec_step a h];simp
theorem inS_len{D:List UInt8}{neg:Bool}{m:Int}{X:List UInt8}{mm:Nat}(h:InS D neg m X mm): X.length≤D.length:=by
 rcases h with ⟨a,-,-,-,h,-⟩|⟨-,-,h,-⟩
 ·rw [h];simp
 ·rw [h];exact qL
theorem son_one(d:Nat)(h:d≤9): (strOfNums [48+(d:Int)]).data.toList=[UInt8.ofNat (48+d)]:=by
 have:d=0∨d=1∨d=2∨d=3∨d=4∨d=5∨d=6∨d=7∨d=8∨d=9:=oM
 rcases this with rfl|rfl|rfl|rfl|rfl|rfl|rfl|rfl|rfl|rfl <;> decide +kernel
theorem rint_any(n:Int)(hn:n.natAbs<10 ^ 16)(w:World): Calls prog 8 #[.int .i64 n] w fun e w'=>e=.returned (.string ⟨(Lib.itoa n).toArray⟩)∧Below w.heap.size w w':=by
 have h0:InS (nds n) (decide (n<0)) n [] (nds n).length:=.inl ⟨n.natAbs,by by_cases h:n<0 <;> simp [h] <;> omega,hn,fun _=>rfl,by simp [nds],rfl⟩
 have hI:Lib.itoa n=if decide (n<0) then 45::nds n else nds n:=by
  unfold Lib.itoa nds
  by_cases h:n<0
  ·simp [h]
  ·simp [h,show n.natAbs=n.toNat by omega]
 obtain ⟨D,hD⟩:∃D,nds n=D:=⟨_,rfl⟩
 have hDl:Hid (D.length≤16):=hid (by rw [←hD];exact nds_len n hn)
 obtain ⟨sg,hsg⟩:∃sg,decide (n<0)=sg:=⟨_,rfl⟩
 rw [hI]
 rw [hD,hsg] at h0 ⊢
 have H0:=hid h0
 have hdn:∀d:Nat,d≤9→(IntKind.i64.wrap (48+(d:Int))=48+d∧IntKind.u8.wrap (48+(d:Int))=48+d):=fun d h=>⟨IntWalk.i64_in _ oM,IntWalk.u8_in _ oM⟩
 clear h0 hD hI hn
 go_enter func8,ntmps8
 go_wp2_with fail
 go_loopg [3,4] D.length (fun mm v3 v4 wr=>∃(m:Int) (X:List UInt8) (T:ByteArray),v4=.int .i64 m∧v3=.string T∧Hid (T.data.toList=X)∧Hid (InS D sg m X mm)∧Hid (Below w.heap.size w wr))
 case atStart=>exact ⟨n,[],_,rfl,rfl,hid rfl,H0,hid tq4⟩
 case round=>
  clear H0
  obtain ⟨m,X,T,rfl,rfl,hT,hO,HB⟩ :=hrel
  have hxl:X.length<100:=by have:=inS_len hO.out;have:=hDl.out;omega
  have hbs:=HB.out.size
  rcases hO.out with ⟨a,hm,ha,ha0,hDa,hmm⟩|⟨rfl,hne,hDx,rfl⟩
  ·obtain ⟨mm2,hO2,hlt⟩ :=inS_step (neg:=sg) ha hDa
   obtain ⟨q,hq⟩:∃q:Int,(if sg then -((a / 10:Nat):Int) else ((a / 10:Nat):Int))=q:=⟨_,rfl⟩
   rw [hq] at hO2
   have hquo:m.tdiv 10=q:=by
    rw [hm,←hq];cases sg
    ·simp only [Bool.false_eq_true,if_false];exact (Int.ofNat_tdiv a 10).symm
    ·simp only [if_true];rw [Int.neg_tdiv];exact congrArg Neg.neg (Int.ofNat_tdiv a 10).symm
   have hqw:IntKind.i64.wrap q=q:=IntWalk.i64_in _ (by rw [←hq];cases sg <;> simp only [Bool.false_eq_true,if_false,if_true] <;> omega)
   obtain ⟨R,hR⟩:∃R,m.tmod 10=R:=⟨_,rfl⟩
   have hR2:R=if sg then -((a % 10:Nat):Int) else ((a % 10:Nat):Int):=by
    rw [←hR,hm];cases sg
    ·simp only [Bool.false_eq_true,if_false];exact (Int.ofNat_tmod a 10).symm
    ·simp only [if_true];rw [Int.neg_tmod];exact congrArg Neg.neg (Int.ofNat_tmod a 10).symm
   obtain ⟨d,hd⟩:∃d,a % 10=d:=⟨_,rfl⟩
   rw [hd] at hR2 hO2
   have hd9:d≤9:=oM
   obtain ⟨w1,w2⟩ :=hdn d hd9
   have hRw:IntKind.i64.wrap R=R:=IntWalk.i64_in _ (by rw [hR2];cases sg <;> simp only [Bool.false_eq_true,if_false,if_true] <;> omega)
   have hOO:=hid hO2
   have hlt':=hid hlt
   have hmm':Hid (gk=(Lib.decDigits a).length):=hid hmm
   have hts:T.size≤100:=by
    have h1:T.size=X.length:=by rw [←hT.out];rfl
    omega
   have hcat:(strOfNums [48+(d:Int)]++T).data.toList=UInt8.ofNat (48+d)::X:=by
    rw [ByteArray.data_append,Array.toList_append,son_one d hd9,hT.out];rfl
   have hss:(strOfNums [48+(d:Int)]).size=1:=by
    have h1:(strOfNums [48+(d:Int)]).size=(strOfNums [48+(d:Int)]).data.toList.length:=rfl
    rw [h1,son_one d hd9];rfl
   have hcond:Hid ((m != 0)=true∨((m != 0)=false∧T=⟨#[]⟩)):=hid (by
    by_cases h0:a=0
    ·right
     refine ⟨by subst h0;rw [hm];cases sg <;> rfl,?_⟩
     have h1:=ha0 h0
     subst h1
     cases T with
     | mk t=>rw [show t=#[] by simpa using hT.out]
    ·left;rw [bne_iff_ne,hm];cases sg <;> simp only [Bool.false_eq_true,if_false,if_true] <;> omega)
   have hk:=Tx.conv_new wr [48+(d:Int)] 1 rfl
   simp only [List.map_cons,List.map_nil] at hk
   clear hO hO2 hlt hmm hm ha ha0 hDa hq hdn
   rcases hcond.out with hc|⟨hc,hnil⟩
   ·clear hcond
    by_cases hs:R<0
    ·have dR:decide (R<0)=true:=by rw [decide_eq_true_eq];exact hs
     have hneg:IntKind.i64.wrap (-R)=(d:Int):=by rw [IntWalk.i64_in _ (by omega)];cases sg <;> simp at hR2 <;> omega
     clear hR2 hs hd
     go_wp2_with fail
     go_roundg mm2
     case measure=>go_light;have h1:=hlt'.out;have h2:=hmm'.out;omega
     case rel=>go_light;exact ⟨q,_,_,by go_num,rfl,hid rfl,by rw [hcat];exact hOO,hid tq4⟩
    ·have dR:decide (R<0)=false:=by rw [decide_eq_false_iff_not];exact hs
     have hRd:R=(d:Int):=by cases sg <;> simp at hR2 <;> omega
     rw [hRd] at hR hRw dR
     clear hR2 hs hd hRd
     go_wp2_with fail
     go_roundg mm2
     case measure=>go_light;have h1:=hlt'.out;have h2:=hmm'.out;omega
     case rel=>go_light;exact ⟨q,_,_,by go_num,rfl,hid rfl,by rw [hcat];exact hOO,hid tq4⟩
   ·subst hnil
    clear hcond
    by_cases hs:R<0
    ·have dR:decide (R<0)=true:=by rw [decide_eq_true_eq];exact hs
     have hneg:IntKind.i64.wrap (-R)=(d:Int):=by rw [IntWalk.i64_in _ (by omega)];cases sg <;> simp at hR2 <;> omega
     clear hR2 hs hd
     go_wp2_with fail
     go_roundg mm2
     case measure=>go_light;have h1:=hlt'.out;have h2:=hmm'.out;omega
     case rel=>go_light;exact ⟨q,_,_,by go_num,rfl,hid rfl,by rw [hcat];exact hOO,hid tq4⟩
    ·have dR:decide (R<0)=false:=by rw [decide_eq_false_iff_not];exact hs
     have hRd:R=(d:Int):=by cases sg <;> simp at hR2 <;> omega
     rw [hRd] at hR hRw dR
     clear hR2 hs hd hRd
     go_wp2_with fail
     go_roundg mm2
     case measure=>go_light;have h1:=hlt'.out;have h2:=hmm'.out;omega
     case rel=>go_light;exact ⟨q,_,_,by go_num,rfl,hid rfl,by rw [hcat];exact hOO,hid tq4⟩
  ·have he:T.toList.isEmpty=false:=by
    rw [ByteArray.toList_eq,hT.out]
    cases X with
    | nil=>exact absurd rfl hne
    | cons x X=>rfl
   have hts:T.size≤100:=by
    have h1:T.size=X.length:=by rw [←hT.out];rfl
    omega
   subst hDx
   cases sg
   ·go_wp2_with fail
    go_ret
    refine ⟨?_,HB.out⟩
    have:T=⟨D.toArray⟩ :=by rw [←hT.out]
    rw [this];rfl
   ·go_wp2_with fail
    go_ret
    refine ⟨?_,HB.out⟩
    have:(⟨#[45]⟩:ByteArray)++T=⟨(45::D).toArray⟩ :=by
     apply ByteArray.ext
     apply Array.ext'
     rw [ByteArray.data_append,Array.toList_append,hT.out];rfl
    rw [this];rfl
end Nn
end Go.Proofs.YtjcioljdlfdnbaaGreatDoor
