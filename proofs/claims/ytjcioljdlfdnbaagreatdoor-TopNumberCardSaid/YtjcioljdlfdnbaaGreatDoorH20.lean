/- Part 20: lemmas for TopNumber; no conditions. -/
import Derived.Test.YtjcioljdlfdnbaaGreatDoorH19
set_option linter.unusedVariables false
set_option linter.unusedSimpArgs false
set_option maxRecDepth 100000
set_option maxHeartbeats 2000000
open Go.Proofs.Tryz
namespace Go.Proofs.YtjcioljdlfdnbaaGreatDoor
namespace Nn
open Go.RowKit
open Np
def Xp (em:Bool) (ds xp:List UInt8):Prop:=(ds=[]∧em=false∧xp=[])∨(ds≠[]∧∃e c,xp=e::(c++ds)∧(e=101∨e=69)∧((em=false∧c=[])∨(em=false∧c=[43])∨(em=true∧c=[45])))
theorem pw_any(w:World)(C:Nat)(mi:Bool)(W F v:ByteArray)(em:Bool)(ds:List UInt8)(hX:Xp em ds v.data.toList)(hdd:∀b∈ds,Dg b)(J:Nat→Act→World→Prop)(Q:Exit→Act→World→Prop)(x:Act)(V:World)(hP:Pw w C mi W F v x V)(hJ:∀(ts:Array Value) (W':World) (E:ByteArray),ts[2]?=some (.pointer (some ⟨C,0,none⟩))→ts[3]?=some (.bool true)→Ex E.data.toList em ds→Bk C [.bool mi,.string W,.string F,.string E] W'→Below C w W'→Q .ret { tmps:=ts,defers:=[] } W'): ∃rest,findLabel (scopeBody f396) 1=some (Code.skip.seq rest)∧rest.wp prog (jumps J Q) x V:=by
 rcases hX with ⟨h1,h2,h3⟩|⟨h0,e,c,h3,he,h⟩
 ·exact pw_e w C mi W F v ds em h3 h1 h2 J Q x V hP hJ
 ·exact pw_x w C mi W F v e c ds em he h h3 h0 hdd J Q x V hP hJ
theorem ex2_l(s:ByteArray)(a b:Nat): (s.extract a b).data.toList=(s.data.toList.drop a).take (b-a):=by simp [ByteArray.data_extract,List.extract]
theorem nd_xp{em:Bool}{ds xp:List UInt8}(h:Xp em ds xp): ∀b,xp.head?=some b→¬Dg b:=by
 rcases h with ⟨_,_,rfl⟩|⟨_,e,c,rfl,he,_⟩
 ·intro b hb;simp at hb
 ·intro b hb;simp at hb;subst hb;rcases he with rfl|rfl <;> (unfold Dg;decide)
theorem bk2(w:World)(a b c d:Value): Bk (w.heap.size+1) [a,b,c,d] ((w.alloc (.cells #[.bool false,.string ⟨#[]⟩,.string ⟨#[]⟩,.string ⟨#[]⟩] 471)).alloc (.cells #[a,b,c,d] 471)):=by
 simpa using Bk.new (w.alloc (.cells #[.bool false,.string ⟨#[]⟩,.string ⟨#[]⟩,.string ⟨#[]⟩] 471)) #[a,b,c,d] 471
theorem bk1(w:World)(a b c d:Value): Bk w.heap.size [.bool false,.string ⟨#[]⟩,.string ⟨#[]⟩,.string ⟨#[]⟩] ((w.alloc (.cells #[.bool false,.string ⟨#[]⟩,.string ⟨#[]⟩,.string ⟨#[]⟩] 471)).alloc (.cells #[a,b,c,d] 471)):=
 (Bk.new w #[.bool false,.string ⟨#[]⟩,.string ⟨#[]⟩,.string ⟨#[]⟩] 471).below (qR.alloc qL (.cells #[a,b,c,d] 471))
def Sgn (s t:ByteArray) (b0:UInt8) (mi:Bool):Prop:=(mi=true∧(∀w,(Instr.index 9 (.string s) (.int .i64 0)).run prog w=.ok (.int .u8 45) w)∧1≤s.size∧s.extract 1 s.size=t)∨(mi=false∧s=t∧((b0.toNat:Int)==45)=false)
theorem sgn_of(s:ByteArray)(b0:UInt8)(l:List UInt8)(mi:Bool)(hs:s.size≤100)(hl:s.data.toList=(if mi then [45] else [])++(b0::l))(hd:Dg b0): ∃t,Sgn s t b0 mi∧t.data.toList=b0::l∧t.size≤100:=by
 cases mi with
 | true=>
  have hl:s.data.toList=45::b0::l:=hl
  refine ⟨s.extract 1 s.size,.inl ⟨rfl,head_l s 45 _ hl,by rw [Lib.size_eq,hl];simp,rfl⟩,by rw [ext_l,hl];rfl,?_⟩
  rw [Lib.size_eq] at hs ⊢
  rw [ext_l,hl]
  rw [hl] at hs
  simp at hs ⊢;omega
 | false=>exact ⟨s,.inr ⟨rfl,rfl,by unfold Dg at hd;rw [beq_eq_false_iff_ne];omega⟩,hl,hs⟩
theorem sp_n(s:ByteArray)(mi:Bool)(b0:UInt8)(w1 xp:List UInt8)(em:Bool)(ds:List UInt8)(hs:s.size≤100)(hl:s.data.toList=(if mi then [45] else [])++((b0::w1)++xp))(hd:∀b∈b0::w1,Dg b)(hz:w1≠[]→b0≠48)(hX:Xp em ds xp)(hdd:∀b∈ds,Dg b)(w:World): Calls prog 396 #[.string s] w (SplitP w mi (b0::w1) [] em ds):=by
 have hnd:=nd_xp hX
 obtain ⟨t,hmi,hl2,hts⟩ :=sgn_of s b0 _ mi hs hl (hd b0 sM)
 have es:=str_e s false (by rw [hl];cases mi <;> rfl)
 have hi0:=head_l t b0 _ hl2
 obtain ⟨k,hk⟩:∃k,(b0::w1).length=k:=⟨_,rfl⟩
 have hl2:t.data.toList=(b0::w1)++(xp):=hl2
 have hdl:dlen t.data.toList=k:=by rw [hl2,←hk];exact dlen_all _ _ hd (by exact hnd)
 have:((k:Int)==0)=false:=by rw [beq_eq_false_iff_ne,←hk];simp;omega
 have kk:(1<k∧(1:Int)<(k:Int)∧((b0.toNat:Int)==48)=false)∨(¬1<k∧¬(1:Int)<(k:Int)):=by
  cases w1 with
  | nil=>right;rw [←hk];simp
  | cons a l=>left;refine ⟨by rw [←hk];simp,by rw [←hk];simp;omega,?_⟩;rw [beq_eq_false_iff_ne];intro h;exact hz sM (UInt8.toNat_inj.1 (show b0.toNat=48 by omega))
 have hD:=fun W=>ndigits_any t k oM (hid hdl) W
 have:k≤t.size:=by rw [Lib.size_eq,hl2,←hk];simp
 have:¬t.size<k:=oM
 obtain ⟨W,hW,hWl⟩ :=ext_t t k
 rw [hl2,List.take_append_of_le_length (by rw [hk];exact qL),←hk,List.take_length] at hWl
 obtain ⟨v,hv,hvl⟩ :=ext_e t k
 rw [hl2,←hk,List.drop_left] at hvl
 have hvs:v.size≤100:=by rw [Lib.size_eq,hvl];rw [Lib.size_eq,hl2] at hts;simp at hts ⊢;omega
 have hvv:v.toList.isEmpty=true∨(v.toList.isEmpty=false∧∃e0:UInt8,(∀w,(Instr.index 9 (.string v) (.int .i64 0)).run prog w=.ok (.int .u8 (e0.toNat:Nat)) w)∧((e0.toNat:Int)==46)=false):=by
  cases hx:xp with
  | nil=>exact .inl (str_e v true (by rw [hvl,hx];rfl))
  | cons e x1=>
   refine .inr ⟨str_e v false (by rw [hvl,hx];rfl),e,head_l v e x1 (by rw [hvl,hx]),?_⟩
   have he:e=101∨e=69:=by
    rcases hX with ⟨_,_,h⟩|⟨_,e',c,h,he,_⟩
    ·rw [h] at hx;cases hx
    ·rw [h] at hx;injection hx with hx _;rw [←hx];exact he
   rcases he with rfl|rfl <;> rfl
 have HX:Hid (Xp em ds v.data.toList):=hid (by rw [hvl];exact hX)
 have HW:Hid (W.data.toList=b0::w1):=hid hWl
 have HDD:=hid hdd
 clear hX hWl hdd hd hdl hk hl hl2 hvl hnd hz
 rcases hmi with ⟨hm,hi,z1,ht⟩|⟨hm,rfl,hb45⟩
 all_goals have HM:=hid hm
 all_goals clear hm
 all_goals rcases kk with ⟨k2,k2',k4⟩|⟨k2,k2'⟩
 all_goals rcases hvv with ev|⟨ev,e0,hvi,h46⟩
 all_goals
  try have:¬((s.size:Int)<1):=oM
  go_enter func396,ntmps396
  go_wp2_with fail
  refine wp_scope_pass (fun n l x w'=>n=0∧l=1∧Pw w w.heap.size mi W ⟨#[]⟩ v x w') 1 ?_ ?_
  ·rintro q l x w' ⟨rfl,rfl,hp⟩
   refine pw_any w w.heap.size mi W ⟨#[]⟩ v em ds HX.out HDD.out _ _ x w' hp ?_
   intro ts W2 E h2 h3 hE hB hb
   have q0:=hB.c 0 _ rfl;have q1:=hB.c 1 _ rfl;have q2:=hB.c 2 _ rfl;have q3:=hB.c 3 _ rfl
   refine bodyPost_ret (v:=.tuple #[.agg #[.bool mi,.string W,.string ⟨#[]⟩,.string E],.bool true]) (by simp [results,results396,go_sem, *]) rfl ⟨W,⟨#[]⟩,E,rfl,HW.out,rfl,hE,hb⟩
  ·intro hin
   have hm:=HM.out;subst hm
   first|(have z3:=z1;go_wp2_with fail;go_region;go_wp2_with (first|(go_at_call 407;refine (hD _).mono ?_;rintro e w1 ⟨rfl,rfl⟩)))|go_wp2_with (first|(go_at_call 407;refine (hD _).mono ?_;rintro e w1 ⟨rfl,rfl⟩))
   go_region
   go_wp2_with fail
   go_step3
   first|exact ⟨0,by omega,rfl,rfl,(Fz.cons (Fz.cons (Fz.cons (Fz.mk0 97 _ rfl) 4 _ rfl) 2 _ rfl) 0 _ rfl),hvs,(bk2 w (.bool true) (.string W) (.string ⟨#[]⟩) (.string ⟨#[]⟩)).below tq4,(bk1 w (.bool true) (.string W) (.string ⟨#[]⟩) (.string ⟨#[]⟩)).below tq4,tq4⟩|exact ⟨0,by omega,rfl,rfl,(Fz.cons (Fz.cons (Fz.cons (Fz.mk0 97 _ rfl) 4 _ rfl) 2 _ rfl) 0 _ rfl),hvs,(bk2 w (.bool false) (.string W) (.string ⟨#[]⟩) (.string ⟨#[]⟩)).below tq4,(bk1 w (.bool false) (.string W) (.string ⟨#[]⟩) (.string ⟨#[]⟩)).below tq4,tq4⟩
theorem sp_f(s:ByteArray)(mi:Bool)(b0:UInt8)(w1 xp:List UInt8)(em:Bool)(ds:List UInt8)(fr:List UInt8)(hf0:fr≠[])(hfd:∀b∈fr,Dg b)(hs:s.size≤100)(hl:s.data.toList=(if mi then [45] else [])++((b0::w1)++(46::(fr++xp))))(hd:∀b∈b0::w1,Dg b)(hz:w1≠[]→b0≠48)(hX:Xp em ds xp)(hdd:∀b∈ds,Dg b)(w:World): Calls prog 396 #[.string s] w (SplitP w mi (b0::w1) fr em ds):=by
 have hnd:=nd_xp hX
 obtain ⟨t,hmi,hl2,hts⟩ :=sgn_of s b0 _ mi hs hl (hd b0 sM)
 have es:=str_e s false (by rw [hl];cases mi <;> rfl)
 have hi0:=head_l t b0 _ hl2
 obtain ⟨k,hk⟩:∃k,(b0::w1).length=k:=⟨_,rfl⟩
 have hl2:t.data.toList=(b0::w1)++(46::(fr++xp)):=hl2
 have hdl:dlen t.data.toList=k:=by rw [hl2,←hk];exact dlen_all _ _ hd (by intro b hb;simp at hb;subst hb;unfold Dg;decide)
 have:((k:Int)==0)=false:=by rw [beq_eq_false_iff_ne,←hk];simp;omega
 have kk:(1<k∧(1:Int)<(k:Int)∧((b0.toNat:Int)==48)=false)∨(¬1<k∧¬(1:Int)<(k:Int)):=by
  cases w1 with
  | nil=>right;rw [←hk];simp
  | cons a l=>left;refine ⟨by rw [←hk];simp,by rw [←hk];simp;omega,?_⟩;rw [beq_eq_false_iff_ne];intro h;exact hz sM (UInt8.toNat_inj.1 (show b0.toNat=48 by omega))
 have hD:=fun W=>ndigits_any t k oM (hid hdl) W
 have:k≤t.size:=by rw [Lib.size_eq,hl2,←hk];simp
 have:¬t.size<k:=oM
 obtain ⟨W,hW,hWl⟩ :=ext_t t k
 rw [hl2,List.take_append_of_le_length (by rw [hk];exact qL),←hk,List.take_length] at hWl
 obtain ⟨v,hv,hvl⟩ :=ext_e t k
 rw [hl2,←hk,List.drop_left] at hvl
 have hvs:v.size≤100:=by rw [Lib.size_eq,hvl];rw [Lib.size_eq,hl2] at hts;simp at hts ⊢;omega
 have ev:=str_e v false (by rw [hvl];rfl)
 have hvi:=head_l v 46 _ hvl
 have:1≤v.size:=by rw [Lib.size_eq,hvl];simp
 have:¬((v.size:Int)<1):=oM
 obtain ⟨v1,hv1,hvl1⟩ :=ext_e v 1
 rw [hvl] at hvl1
 simp only [List.drop_succ_cons,List.drop_zero] at hvl1
 obtain ⟨m,hm⟩:∃m,fr.length=m:=⟨_,rfl⟩
 have:1≤m:=by rw [←hm];cases fr with|nil=>exact absurd rfl hf0|cons a l=>simp
 have:((m:Int)==0)=false:=by rw [beq_eq_false_iff_ne];omega
 have hvs1:v1.size≤100:=by rw [Lib.size_eq,hvl1];rw [Lib.size_eq,hvl] at hvs;simp at hvs ⊢;omega
 have hD2:=fun W=>ndigits_any v1 m oM (hid (by rw [hvl1,←hm];exact dlen_all fr xp hfd hnd)) W
 have:m≤100:=by rw [Lib.size_eq,hvl1] at hvs1;rw [←hm];simp at hvs1;omega
 have:IntKind.i64.wrap ((m:Int)+1)=(m:Int)+1:=IntWalk.i64_in _ oM
 have:m+1≤v.size:=by rw [Lib.size_eq,hvl,←hm];simp
 have:¬((v.size:Int)<(m:Int)+1):=oM
 have:¬((m:Int)+1<1):=oM
 have:¬((m:Int)+1<0):=oM
 have:((m:Int)+1).toNat=m+1:=oM
 obtain ⟨F,hF⟩:∃F,v.extract 1 (m+1)=F:=⟨_,rfl⟩
 have hFl:F.data.toList=fr:=by rw [←hF,ex2_l v 1 (m+1),hvl];simp [←hm]
 obtain ⟨v2,hv2,hvl2⟩ :=ext_e v (m+1)
 rw [hvl,←hm] at hvl2
 simp only [List.drop_succ_cons,List.drop_left] at hvl2
 have hvs2:v2.size≤100:=by rw [Lib.size_eq,hvl2];rw [Lib.size_eq,hvl1] at hvs1;simp at hvs1 ⊢;omega
 have HX:Hid (Xp em ds v2.data.toList):=hid (by rw [hvl2];exact hX)
 have HW:Hid (W.data.toList=b0::w1):=hid hWl
 have HF:Hid (F.data.toList=fr):=hid hFl
 have HDD:=hid hdd
 clear hX hWl hdd hd hdl hk hl hl2 hvl hnd hz hvl1 hvl2 hFl hfd hf0 hm
 rcases hmi with ⟨hm,hi,z1,ht⟩|⟨hm,rfl,hb45⟩
 all_goals have HM:=hid hm
 all_goals clear hm
 all_goals rcases kk with ⟨k2,k2',k4⟩|⟨k2,k2'⟩
 all_goals
  try have:¬((s.size:Int)<1):=oM
  go_enter func396,ntmps396
  go_wp2_with fail
  refine wp_scope_pass (fun n l x w'=>n=0∧l=1∧Pw w w.heap.size mi W F v2 x w') 1 ?_ ?_
  ·rintro q l x w' ⟨rfl,rfl,hp⟩
   refine pw_any w w.heap.size mi W F v2 em ds HX.out HDD.out _ _ x w' hp ?_
   intro ts W2 E h2 h3 hE hB hb
   have q0:=hB.c 0 _ rfl;have q1:=hB.c 1 _ rfl;have q2:=hB.c 2 _ rfl;have q3:=hB.c 3 _ rfl
   refine bodyPost_ret (v:=.tuple #[.agg #[.bool mi,.string W,.string F,.string E],.bool true]) (by simp [results,results396,go_sem, *]) rfl ⟨W,F,E,rfl,HW.out,HF.out,hE,hb⟩
  ·intro hin
   have hm:=HM.out;subst hm
   first|(have z3:=z1;go_wp2_with fail;go_region;go_wp2_with (first|(go_at_call 407;refine (hD _).mono ?_;rintro e w1 ⟨rfl,rfl⟩)))|go_wp2_with (first|(go_at_call 407;refine (hD _).mono ?_;rintro e w1 ⟨rfl,rfl⟩))
   go_region
   go_wp2_with (first|(go_at_call 407;(with_reducible show Calls prog 407 #[.string v1] _ _);refine (hD2 _).mono ?_;rintro e w1 ⟨rfl,rfl⟩))
   go_region
   go_wp2_with fail
   go_step3
   rename_i hK
   refine hK _ _ <| hin 0 1 _ _ _ oM rfl ?_
   first|exact ⟨rfl,rfl,(Fz.cons (Fz.cons (Fz.cons (Fz.mk0 97 _ rfl) 4 _ rfl) 2 _ rfl) 0 _ rfl),hvs2,(bk2 w (.bool true) (.string W) (.string F) (.string ⟨#[]⟩)).below tq4,(bk1 w (.bool true) (.string W) (.string F) (.string ⟨#[]⟩)).below tq4,tq4⟩|exact ⟨rfl,rfl,(Fz.cons (Fz.cons (Fz.cons (Fz.mk0 97 _ rfl) 4 _ rfl) 2 _ rfl) 0 _ rfl),hvs2,(bk2 w (.bool false) (.string W) (.string F) (.string ⟨#[]⟩)).below tq4,(bk1 w (.bool false) (.string W) (.string F) (.string ⟨#[]⟩)).below tq4,tq4⟩
theorem split_any(s:ByteArray)(mi:Bool)(wh fr:List UInt8)(em:Bool)(ds:List UInt8)(hs:s.size≤100)(hP:Parts s.data.toList mi wh fr em ds)(w:World): Calls prog 396 #[.string s] w (SplitP w mi wh fr em ds):=by
 obtain ⟨fp,xp,hl,hf,hX⟩ :=hP.ex
 have hz:∀b0 w1,wh=b0::w1→w1≠[]→b0≠48:=by
  intro b0 w1 h h1
  rcases hP.wz with h2|h2
  ·rw [h] at h2;injection h2 with _ h2;exact absurd h2 h1
  ·exact h2 b0 (by rw [h];rfl)
 have hwd:=hP.wd
 cases hw:wh with
 | nil=>exact absurd hw hP.w0
 | cons b0 w1=>
  rw [hw] at hl hwd
  rcases hf with ⟨rfl,rfl⟩|⟨hf0,rfl⟩
  ·exact sp_n s mi b0 w1 xp em ds hs hl hwd (hz b0 w1 hw) hX hP.dd w
  ·exact sp_f s mi b0 w1 xp em ds fr hf0 hP.fd hs hl hwd (hz b0 w1 hw) hX hP.dd w
def SN (T:ByteArray) (k:Nat) (sl:Value) (dd m:Int) (x:Nat) (w W:World):Prop:=Sc T k sl dd m x W∧Oth w W x x
theorem sn_next{T:ByteArray}{k:Nat}{sl:Value}{dd m:Int}{x:Nat}{w W:World}(hs:T.size≤100000)(hk:k<T.size)(c:Int)(hc:((T[k]'hk).toNat:Int)=c)(h:Hid (SN T k sl dd m x w W)): Calls prog 130 #[.pointer (some ⟨x,0,none⟩)] W fun e w'=>e=.returned (.int .u8 c)∧Hid (SN T k sl dd m x w w'):=
 (next_v T k sl dd m c x hs hk hc W h.out.1).mono (by rintro e w' ⟨rfl,n,rfl⟩;exact ⟨rfl,hid ⟨h.out.1.drewN _,h.out.2.trans (Oth.drewN _ _ _ _)⟩⟩)
theorem sn_dig{T:ByteArray}{k d:Nat}{sl:Value}{dd m:Int}{x:Nat}{w W:World}(hs:T.size≤100000)(h1:1≤d)(hd:Hid (dlen (T.data.toList.drop k)=d))(hk:k+d<T.size)(h:Hid (SN T k sl dd m x w W)): Calls prog 262 #[.pointer (some ⟨x,0,none⟩)] W fun e w'=>e=.returned (.bool true)∧Hid (SN T (k+d) sl dd m x w w'):=
 (sdigits T k d sl dd m x hs h1 hd hk W h.out.1).mono (by rintro e w' ⟨rfl,hS,hO⟩;exact ⟨rfl,hid ⟨hS,h.out.2.trans hO⟩⟩)
theorem sn_up{T:ByteArray}{k:Nat}{sl:Value}{dd m:Int}{x:Nat}{w W:World}(h:Hid (SN T k sl dd m x w W)): Hid (SN T (k+1) sl dd m x w (W.setCell ⟨x,1,none⟩ (.int .i64 ((k:Int)+1)))):=by
 have:=h.out.1.setK (k+1)
 rw [show ((k+1:Nat):Int)=(k:Int)+1 by omega] at this
 exact hid ⟨this,h.out.2.trans (Oth.setP _ _ _ _ _)⟩
theorem p0{cc:Code}(hcc:partOf (bodyOf f198) 0=cc)(T:ByteArray)(hs:T.size≤100000)(k:Nat)(sl:Value)(dd m:Int)(x:Nat)(w:World)(y:Act)(hy:Fz 73 [(0,.pointer (some ⟨x,0,none⟩))] y)(W:World)(H:Hid (SN T k sl dd m x w W))(K:Act→World→Prop)(Q:Exit→Act→World→Prop)(hk:∀y' W',Fz 73 [(0,.pointer (some ⟨x,0,none⟩))] y'→Hid (SN T (k) sl dd m x w W')→K y' W'): cc.wp prog (Exit.then K Q) y W:=by
 subst hcc
 have HK:=hid hk
 clear hk
 have kv0:=hy.at 0 (.pointer (some ⟨x,0,none⟩)) sM
 have e:=hy.lit73
 rw [e];simp only [kv0]
 clear hy e kv0
 have gen:∃u:Nat→Value,∀i,y.tmps.getD i undef=u i:=⟨_,fun _=>rfl⟩
 obtain ⟨u,hu⟩ :=gen
 simp only [hu]
 clear hu y
 show Code.wp _ (Code.region _ _ _) _ _ _
 go_wp2_with fail
 exact HK.out _ _ (Fz.cons (Fz.mk0 73 _ rfl) 0 _ rfl) H
theorem p1s{cc:Code}(hcc:partOf (bodyOf f198) 1=cc)(T:ByteArray)(hs:T.size≤100000)(k:Nat)(c:Int)(hk0:k<T.size)(hc0:((T[k]'hk0).toNat:Int)=c)(hb:c=45)(sl:Value)(dd m:Int)(x:Nat)(w:World)(y:Act)(hy:Fz 73 [(0,.pointer (some ⟨x,0,none⟩))] y)(W:World)(H:Hid (SN T k sl dd m x w W))(K:Act→World→Prop)(Q:Exit→Act→World→Prop)(hk:∀y' W',Fz 73 [(0,.pointer (some ⟨x,0,none⟩))] y'→Hid (SN T (k+1) sl dd m x w W')→K y' W'): cc.wp prog (Exit.then K Q) y W:=by
 subst hcc
 have HK:=hid hk
 clear hk
 have kv0:=hy.at 0 (.pointer (some ⟨x,0,none⟩)) sM
 have e:=hy.lit73
 rw [e];simp only [kv0]
 clear hy e kv0
 have gen:∃u:Nat→Value,∀i,y.tmps.getD i undef=u i:=⟨_,fun _=>rfl⟩
 obtain ⟨u,hu⟩ :=gen
 simp only [hu]
 clear hu y
 have:(c==45)=true:=by rw [beq_iff_eq];omega
 have:IntKind.i64.wrap ((k:Int)+1)=(k:Int)+1:=IntWalk.i64_in _ oM
 show Code.wp _ (Code.seq _ _) _ _ _
 go_wp2_with fail
 refine (sn_next hs hk0 c hc0 H).mono ?_;rintro e w1 ⟨rfl,H1⟩
 have xlt1:=H1.out.1.lt
 have x11:=H1.out.1.c1
 have z11:=H1.out.1.z1
 go_wp2_with fail
 exact HK.out _ _ (Fz.cons (Fz.mk0 73 _ rfl) 0 _ rfl) (sn_up H1)
theorem p1n{cc:Code}(hcc:partOf (bodyOf f198) 1=cc)(T:ByteArray)(hs:T.size≤100000)(k:Nat)(c:Int)(hk0:k<T.size)(hc0:((T[k]'hk0).toNat:Int)=c)(hb:c≠45)(sl:Value)(dd m:Int)(x:Nat)(w:World)(y:Act)(hy:Fz 73 [(0,.pointer (some ⟨x,0,none⟩))] y)(W:World)(H:Hid (SN T k sl dd m x w W))(K:Act→World→Prop)(Q:Exit→Act→World→Prop)(hk:∀y' W',Fz 73 [(0,.pointer (some ⟨x,0,none⟩))] y'→Hid (SN T (k) sl dd m x w W')→K y' W'): cc.wp prog (Exit.then K Q) y W:=by
 subst hcc
 have HK:=hid hk
 clear hk
 have kv0:=hy.at 0 (.pointer (some ⟨x,0,none⟩)) sM
 have e:=hy.lit73
 rw [e];simp only [kv0]
 clear hy e kv0
 have gen:∃u:Nat→Value,∀i,y.tmps.getD i undef=u i:=⟨_,fun _=>rfl⟩
 obtain ⟨u,hu⟩ :=gen
 simp only [hu]
 clear hu y
 have:(c==45)=false:=by rw [beq_eq_false_iff_ne];omega
 show Code.wp _ (Code.seq _ _) _ _ _
 go_wp2_with fail
 refine (sn_next hs hk0 c hc0 H).mono ?_;rintro e w1 ⟨rfl,H1⟩
 go_wp2_with fail
 exact HK.out _ _ (Fz.cons (Fz.mk0 73 _ rfl) 0 _ rfl) H1
theorem p2z{cc:Code}(hcc:partOf (bodyOf f198) 2=cc)(T:ByteArray)(hs:T.size≤100000)(k:Nat)(c:Int)(hk0:k<T.size)(hc0:((T[k]'hk0).toNat:Int)=c)(hb:c=48)(sl:Value)(dd m:Int)(x:Nat)(w:World)(y:Act)(hy:Fz 73 [(0,.pointer (some ⟨x,0,none⟩))] y)(W:World)(H:Hid (SN T k sl dd m x w W))(K:Act→World→Prop)(Q:Exit→Act→World→Prop)(hk:∀y' W',Fz 73 [(0,.pointer (some ⟨x,0,none⟩))] y'→Hid (SN T (k+1) sl dd m x w W')→K y' W'): cc.wp prog (Exit.then K Q) y W:=by
 subst hcc
 have HK:=hid hk
 clear hk
 have kv0:=hy.at 0 (.pointer (some ⟨x,0,none⟩)) sM
 have e:=hy.lit73
 rw [e];simp only [kv0]
 clear hy e kv0
 have gen:∃u:Nat→Value,∀i,y.tmps.getD i undef=u i:=⟨_,fun _=>rfl⟩
 obtain ⟨u,hu⟩ :=gen
 simp only [hu]
 clear hu y
 have:(c==48)=true:=by rw [beq_iff_eq];omega
 have:IntKind.i64.wrap ((k:Int)+1)=(k:Int)+1:=IntWalk.i64_in _ oM
 show Code.wp _ (Code.seq _ _) _ _ _
 go_wp2_with fail
 refine (sn_next hs hk0 c hc0 H).mono ?_;rintro e w1 ⟨rfl,H1⟩
 have xlt1:=H1.out.1.lt
 have x11:=H1.out.1.c1
 have z11:=H1.out.1.z1
 go_wp2_with fail
 exact HK.out _ _ (Fz.cons (Fz.mk0 73 _ rfl) 0 _ rfl) (sn_up H1)
theorem p2d{cc:Code}(hcc:partOf (bodyOf f198) 2=cc)(T:ByteArray)(hs:T.size≤100000)(k:Nat)(c:Int)(hk0:k<T.size)(hc0:((T[k]'hk0).toNat:Int)=c)(hb:c≠48)(d:Nat)(h1:1≤d)(hd:Hid (dlen (T.data.toList.drop k)=d))(hkd:k+d<T.size)(sl:Value)(dd m:Int)(x:Nat)(w:World)(y:Act)(hy:Fz 73 [(0,.pointer (some ⟨x,0,none⟩))] y)(W:World)(H:Hid (SN T k sl dd m x w W))(K:Act→World→Prop)(Q:Exit→Act→World→Prop)(hk:∀y' W',Fz 73 [(0,.pointer (some ⟨x,0,none⟩))] y'→Hid (SN T (k+d) sl dd m x w W')→K y' W'): cc.wp prog (Exit.then K Q) y W:=by
 subst hcc
 have HK:=hid hk
 clear hk
 have kv0:=hy.at 0 (.pointer (some ⟨x,0,none⟩)) sM
 have e:=hy.lit73
 rw [e];simp only [kv0]
 clear hy e kv0
 have gen:∃u:Nat→Value,∀i,y.tmps.getD i undef=u i:=⟨_,fun _=>rfl⟩
 obtain ⟨u,hu⟩ :=gen
 simp only [hu]
 clear hu y
 have:(c==48)=false:=by rw [beq_eq_false_iff_ne];omega
 show Code.wp _ (Code.seq _ _) _ _ _
 go_wp2_with fail
 refine (sn_next hs hk0 c hc0 H).mono ?_;rintro e w1 ⟨rfl,H1⟩
 go_wp2_with fail
 refine (sn_dig hs h1 hd hkd H1).mono ?_;rintro e w2 ⟨rfl,H2⟩
 go_wp2_with fail
 exact HK.out _ _ (Fz.cons (Fz.mk0 73 _ rfl) 0 _ rfl) H2
theorem p3n{cc:Code}(hcc:partOf (bodyOf f198) 3=cc)(T:ByteArray)(hs:T.size≤100000)(k:Nat)(c:Int)(hk0:k<T.size)(hc0:((T[k]'hk0).toNat:Int)=c)(hb:c≠46)(sl:Value)(dd m:Int)(x:Nat)(w:World)(y:Act)(hy:Fz 73 [(0,.pointer (some ⟨x,0,none⟩))] y)(W:World)(H:Hid (SN T k sl dd m x w W))(K:Act→World→Prop)(Q:Exit→Act→World→Prop)(hk:∀y' W',Fz 73 [(0,.pointer (some ⟨x,0,none⟩))] y'→Hid (SN T (k) sl dd m x w W')→K y' W'): cc.wp prog (Exit.then K Q) y W:=by
 subst hcc
 have HK:=hid hk
 clear hk
 have kv0:=hy.at 0 (.pointer (some ⟨x,0,none⟩)) sM
 have e:=hy.lit73
 rw [e];simp only [kv0]
 clear hy e kv0
 have gen:∃u:Nat→Value,∀i,y.tmps.getD i undef=u i:=⟨_,fun _=>rfl⟩
 obtain ⟨u,hu⟩ :=gen
 simp only [hu]
 clear hu y
 have:(c==46)=false:=by rw [beq_eq_false_iff_ne];omega
 show Code.wp _ (Code.seq _ _) _ _ _
 go_wp2_with fail
 refine (sn_next hs hk0 c hc0 H).mono ?_;rintro e w1 ⟨rfl,H1⟩
 go_wp2_with fail
 exact HK.out _ _ (Fz.cons (Fz.mk0 73 _ rfl) 0 _ rfl) H1
theorem p3f{cc:Code}(hcc:partOf (bodyOf f198) 3=cc)(T:ByteArray)(hs:T.size≤100000)(k:Nat)(c:Int)(hk0:k<T.size)(hc0:((T[k]'hk0).toNat:Int)=c)(hb:c=46)(d:Nat)(h1:1≤d)(hd:Hid (dlen (T.data.toList.drop (k+1))=d))(hkd:k+1+d<T.size)(sl:Value)(dd m:Int)(x:Nat)(w:World)(y:Act)(hy:Fz 73 [(0,.pointer (some ⟨x,0,none⟩))] y)(W:World)(H:Hid (SN T k sl dd m x w W))(K:Act→World→Prop)(Q:Exit→Act→World→Prop)(hk:∀y' W',Fz 73 [(0,.pointer (some ⟨x,0,none⟩))] y'→Hid (SN T (k+1+d) sl dd m x w W')→K y' W'): cc.wp prog (Exit.then K Q) y W:=by
 subst hcc
 have HK:=hid hk
 clear hk
 have kv0:=hy.at 0 (.pointer (some ⟨x,0,none⟩)) sM
 have e:=hy.lit73
 rw [e];simp only [kv0]
 clear hy e kv0
 have gen:∃u:Nat→Value,∀i,y.tmps.getD i undef=u i:=⟨_,fun _=>rfl⟩
 obtain ⟨u,hu⟩ :=gen
 simp only [hu]
 clear hu y
 have:(c==46)=true:=by rw [beq_iff_eq];omega
 have:IntKind.i64.wrap ((k:Int)+1)=(k:Int)+1:=IntWalk.i64_in _ oM
 show Code.wp _ (Code.seq _ _) _ _ _
 go_wp2_with fail
 refine (sn_next hs hk0 c hc0 H).mono ?_;rintro e w1 ⟨rfl,H1⟩
 have xlt1:=H1.out.1.lt
 have x11:=H1.out.1.c1
 have z11:=H1.out.1.z1
 go_wp2_with fail
 have H2:=sn_up H1
 generalize World.setCell _ _ _=V at H2 ⊢
 refine (sn_dig hs h1 hd hkd H2).mono ?_;rintro e w3 ⟨rfl,H3⟩
 go_wp2_with fail
 exact HK.out _ _ (Fz.cons (Fz.mk0 73 _ rfl) 0 _ rfl) H3
theorem p4r{cc:Code}(hcc:partOf (bodyOf f198) 4=cc)(T:ByteArray)(hs:T.size≤100000)(k:Nat)(c:Int)(hk0:k<T.size)(hc0:((T[k]'hk0).toNat:Int)=c)(h1:c≠101)(h2:c≠69)(sl:Value)(dd m:Int)(x:Nat)(w:World)(y:Act)(hy:Fz 73 [(0,.pointer (some ⟨x,0,none⟩))] y)(W:World)(H:Hid (SN T k sl dd m x w W))(K:Act→World→Prop)(Q:Exit→Act→World→Prop)(hr:∀(ts:Array Value) W',ts[2]?=some (.bool true)→Hid (SN T (k) sl dd m x w W')→Q .ret ⟨ts,[]⟩ W'): cc.wp prog (Exit.then K Q) y W:=by
 subst hcc
 have HK:=hid hr
 clear hr
 have kv0:=hy.at 0 (.pointer (some ⟨x,0,none⟩)) sM
 have e:=hy.lit73
 rw [e];simp only [kv0]
 clear hy e kv0
 have gen:∃u:Nat→Value,∀i,y.tmps.getD i undef=u i:=⟨_,fun _=>rfl⟩
 obtain ⟨u,hu⟩ :=gen
 simp only [hu]
 clear hu y
 have:(c != 101)=true:=by rw [bne_iff_ne];omega
 have:(c != 69)=true:=by rw [bne_iff_ne];omega
 show Code.wp _ (Code.seq _ _) _ _ _
 go_wp2_with fail
 refine (sn_next hs hk0 c hc0 H).mono ?_;rintro e w1 ⟨rfl,H1⟩
 go_wp2_with fail
 exact HK.out _ _ rfl H1
theorem p4e{cc:Code}(hcc:partOf (bodyOf f198) 4=cc)(T:ByteArray)(hs:T.size≤100000)(k:Nat)(c:Int)(hk0:k<T.size)(hc0:((T[k]'hk0).toNat:Int)=c)(hb:c=101)(sl:Value)(dd m:Int)(x:Nat)(w:World)(y:Act)(hy:Fz 73 [(0,.pointer (some ⟨x,0,none⟩))] y)(W:World)(H:Hid (SN T k sl dd m x w W))(K:Act→World→Prop)(Q:Exit→Act→World→Prop)(hk:∀y' W',Fz 73 [(0,.pointer (some ⟨x,0,none⟩))] y'→Hid (SN T (k) sl dd m x w W')→K y' W'): cc.wp prog (Exit.then K Q) y W:=by
 subst hcc
 have HK:=hid hk
 clear hk
 have kv0:=hy.at 0 (.pointer (some ⟨x,0,none⟩)) sM
 have e:=hy.lit73
 rw [e];simp only [kv0]
 clear hy e kv0
 have gen:∃u:Nat→Value,∀i,y.tmps.getD i undef=u i:=⟨_,fun _=>rfl⟩
 obtain ⟨u,hu⟩ :=gen
 simp only [hu]
 clear hu y
 have:(c != 101)=false:=by rw [bne_eq_false_iff_eq];omega
 show Code.wp _ (Code.seq _ _) _ _ _
 go_wp2_with fail
 refine (sn_next hs hk0 c hc0 H).mono ?_;rintro e w1 ⟨rfl,H1⟩
 go_wp2_with fail
 exact HK.out _ _ (Fz.cons (Fz.mk0 73 _ rfl) 0 _ rfl) H1
theorem p4E{cc:Code}(hcc:partOf (bodyOf f198) 4=cc)(T:ByteArray)(hs:T.size≤100000)(k:Nat)(c:Int)(hk0:k<T.size)(hc0:((T[k]'hk0).toNat:Int)=c)(hb:c=69)(sl:Value)(dd m:Int)(x:Nat)(w:World)(y:Act)(hy:Fz 73 [(0,.pointer (some ⟨x,0,none⟩))] y)(W:World)(H:Hid (SN T k sl dd m x w W))(K:Act→World→Prop)(Q:Exit→Act→World→Prop)(hk:∀y' W',Fz 73 [(0,.pointer (some ⟨x,0,none⟩))] y'→Hid (SN T (k) sl dd m x w W')→K y' W'): cc.wp prog (Exit.then K Q) y W:=by
 subst hcc
 have HK:=hid hk
 clear hk
 have kv0:=hy.at 0 (.pointer (some ⟨x,0,none⟩)) sM
 have e:=hy.lit73
 rw [e];simp only [kv0]
 clear hy e kv0
 have gen:∃u:Nat→Value,∀i,y.tmps.getD i undef=u i:=⟨_,fun _=>rfl⟩
 obtain ⟨u,hu⟩ :=gen
 simp only [hu]
 clear hu y
 have:(c != 101)=true:=by rw [bne_iff_ne];omega
 have:(c != 69)=false:=by rw [bne_eq_false_iff_eq];omega
 show Code.wp _ (Code.seq _ _) _ _ _
 go_wp2_with fail
 refine (sn_next hs hk0 c hc0 H).mono ?_;rintro e w1 ⟨rfl,H1⟩
 go_wp2_with fail
 exact HK.out _ _ (Fz.cons (Fz.mk0 73 _ rfl) 0 _ rfl) H1
theorem p5{cc:Code}(hcc:partOf (bodyOf f198) 5=cc)(T:ByteArray)(hs:T.size≤100000)(k:Nat)(hkT:k<T.size)(sl:Value)(dd m:Int)(x:Nat)(w:World)(y:Act)(hy:Fz 73 [(0,.pointer (some ⟨x,0,none⟩))] y)(W:World)(H:Hid (SN T k sl dd m x w W))(K:Act→World→Prop)(Q:Exit→Act→World→Prop)(hk:∀y' W',Fz 73 [(0,.pointer (some ⟨x,0,none⟩))] y'→Hid (SN T (k+1) sl dd m x w W')→K y' W'): cc.wp prog (Exit.then K Q) y W:=by
 subst hcc
 have HK:=hid hk
 clear hk
 have kv0:=hy.at 0 (.pointer (some ⟨x,0,none⟩)) sM
 have e:=hy.lit73
 rw [e];simp only [kv0]
 clear hy e kv0
 have gen:∃u:Nat→Value,∀i,y.tmps.getD i undef=u i:=⟨_,fun _=>rfl⟩
 obtain ⟨u,hu⟩ :=gen
 simp only [hu]
 clear hu y
 have:IntKind.i64.wrap ((k:Int)+1)=(k:Int)+1:=IntWalk.i64_in _ oM
 have xlt:=H.out.1.lt
 have x1:=H.out.1.c1
 have z1:=H.out.1.z1
 show Code.wp _ (Code.region _ _ _) _ _ _
 go_wp2_with fail
 exact HK.out _ _ (Fz.cons (Fz.mk0 73 _ rfl) 0 _ rfl) (sn_up H)
theorem p6n{cc:Code}(hcc:partOf (bodyOf f198) 6=cc)(T:ByteArray)(hs:T.size≤100000)(k:Nat)(c:Int)(hk0:k<T.size)(hc0:((T[k]'hk0).toNat:Int)=c)(h1:c≠43)(h2:c≠45)(sl:Value)(dd m:Int)(x:Nat)(w:World)(y:Act)(hy:Fz 73 [(0,.pointer (some ⟨x,0,none⟩))] y)(W:World)(H:Hid (SN T k sl dd m x w W))(K:Act→World→Prop)(Q:Exit→Act→World→Prop)(hk:∀y' W',Fz 73 [(0,.pointer (some ⟨x,0,none⟩))] y'→Hid (SN T (k) sl dd m x w W')→K y' W'): cc.wp prog (Exit.then K Q) y W:=by
 subst hcc
 have HK:=hid hk
 clear hk
 have kv0:=hy.at 0 (.pointer (some ⟨x,0,none⟩)) sM
 have e:=hy.lit73
 rw [e];simp only [kv0]
 clear hy e kv0
 have gen:∃u:Nat→Value,∀i,y.tmps.getD i undef=u i:=⟨_,fun _=>rfl⟩
 obtain ⟨u,hu⟩ :=gen
 simp only [hu]
 clear hu y
 have:(c==43)=false:=by rw [beq_eq_false_iff_ne];omega
 have:(c==45)=false:=by rw [beq_eq_false_iff_ne];omega
 show Code.wp _ (Code.seq _ _) _ _ _
 go_wp2_with fail
 refine (sn_next hs hk0 c hc0 H).mono ?_;rintro e w1 ⟨rfl,H1⟩
 go_wp2_with fail
 exact HK.out _ _ (Fz.cons (Fz.mk0 73 _ rfl) 0 _ rfl) H1
theorem p6p{cc:Code}(hcc:partOf (bodyOf f198) 6=cc)(T:ByteArray)(hs:T.size≤100000)(k:Nat)(c:Int)(hk0:k<T.size)(hc0:((T[k]'hk0).toNat:Int)=c)(hb:c=43)(sl:Value)(dd m:Int)(x:Nat)(w:World)(y:Act)(hy:Fz 73 [(0,.pointer (some ⟨x,0,none⟩))] y)(W:World)(H:Hid (SN T k sl dd m x w W))(K:Act→World→Prop)(Q:Exit→Act→World→Prop)(hk:∀y' W',Fz 73 [(0,.pointer (some ⟨x,0,none⟩))] y'→Hid (SN T (k+1) sl dd m x w W')→K y' W'): cc.wp prog (Exit.then K Q) y W:=by
 subst hcc
 have HK:=hid hk
 clear hk
 have kv0:=hy.at 0 (.pointer (some ⟨x,0,none⟩)) sM
 have e:=hy.lit73
 rw [e];simp only [kv0]
 clear hy e kv0
 have gen:∃u:Nat→Value,∀i,y.tmps.getD i undef=u i:=⟨_,fun _=>rfl⟩
 obtain ⟨u,hu⟩ :=gen
 simp only [hu]
 clear hu y
 have:(c==43)=true:=by rw [beq_iff_eq];omega
 have:IntKind.i64.wrap ((k:Int)+1)=(k:Int)+1:=IntWalk.i64_in _ oM
 show Code.wp _ (Code.seq _ _) _ _ _
 go_wp2_with fail
 refine (sn_next hs hk0 c hc0 H).mono ?_;rintro e w1 ⟨rfl,H1⟩
 have xlt1:=H1.out.1.lt
 have x11:=H1.out.1.c1
 have z11:=H1.out.1.z1
 go_wp2_with fail
 exact HK.out _ _ (Fz.cons (Fz.mk0 73 _ rfl) 0 _ rfl) (sn_up H1)
theorem p6m{cc:Code}(hcc:partOf (bodyOf f198) 6=cc)(T:ByteArray)(hs:T.size≤100000)(k:Nat)(c:Int)(hk0:k<T.size)(hc0:((T[k]'hk0).toNat:Int)=c)(hb:c=45)(sl:Value)(dd m:Int)(x:Nat)(w:World)(y:Act)(hy:Fz 73 [(0,.pointer (some ⟨x,0,none⟩))] y)(W:World)(H:Hid (SN T k sl dd m x w W))(K:Act→World→Prop)(Q:Exit→Act→World→Prop)(hk:∀y' W',Fz 73 [(0,.pointer (some ⟨x,0,none⟩))] y'→Hid (SN T (k+1) sl dd m x w W')→K y' W'): cc.wp prog (Exit.then K Q) y W:=by
 subst hcc
 have HK:=hid hk
 clear hk
 have kv0:=hy.at 0 (.pointer (some ⟨x,0,none⟩)) sM
 have e:=hy.lit73
 rw [e];simp only [kv0]
 clear hy e kv0
 have gen:∃u:Nat→Value,∀i,y.tmps.getD i undef=u i:=⟨_,fun _=>rfl⟩
 obtain ⟨u,hu⟩ :=gen
 simp only [hu]
 clear hu y
 have:(c==43)=false:=by rw [beq_eq_false_iff_ne];omega
 have:(c==45)=true:=by rw [beq_iff_eq];omega
 have:IntKind.i64.wrap ((k:Int)+1)=(k:Int)+1:=IntWalk.i64_in _ oM
 show Code.wp _ (Code.seq _ _) _ _ _
 go_wp2_with fail
 refine (sn_next hs hk0 c hc0 H).mono ?_;rintro e w1 ⟨rfl,H1⟩
 have xlt1:=H1.out.1.lt
 have x11:=H1.out.1.c1
 have z11:=H1.out.1.z1
 go_wp2_with fail
 exact HK.out _ _ (Fz.cons (Fz.mk0 73 _ rfl) 0 _ rfl) (sn_up H1)
theorem p7{cc:Code}(hcc:restOf (bodyOf f198) 7=cc)(T:ByteArray)(hs:T.size≤100000)(k:Nat)(d:Nat)(h1:1≤d)(hd:Hid (dlen (T.data.toList.drop k)=d))(hkd:k+d<T.size)(sl:Value)(dd m:Int)(x:Nat)(w:World)(y:Act)(hy:Fz 73 [(0,.pointer (some ⟨x,0,none⟩))] y)(W:World)(H:Hid (SN T k sl dd m x w W))(K:Act→World→Prop)(Q:Exit→Act→World→Prop)(hr:∀(ts:Array Value) W',ts[2]?=some (.bool true)→Hid (SN T (k+d) sl dd m x w W')→Q .ret ⟨ts,[]⟩ W'): cc.wp prog Q y W:=by
 subst hcc
 have HK:=hid hr
 clear hr
 have kv0:=hy.at 0 (.pointer (some ⟨x,0,none⟩)) sM
 have e:=hy.lit73
 rw [e];simp only [kv0]
 clear hy e kv0
 have gen:∃u:Nat→Value,∀i,y.tmps.getD i undef=u i:=⟨_,fun _=>rfl⟩
 obtain ⟨u,hu⟩ :=gen
 simp only [hu]
 clear hu y
 show Code.wp _ (Code.seq _ _) _ _ _
 go_wp2_with fail
 refine (sn_dig hs h1 hd hkd H).mono ?_;rintro e w1 ⟨rfl,H1⟩
 go_wp2_with fail
 exact HK.out _ _ rfl H1
theorem byt{T:ByteArray}{k:Nat}{b:UInt8}{l:List UInt8}(h:T.data.toList.drop k=b::l): ∃hk:k<T.size,((T[k]'hk).toNat:Int)=(b.toNat:Nat):=by
 obtain ⟨hj,h1,-⟩ :=drop_at T k b l h
 exact ⟨hj,by rw [h1]⟩
theorem drop_by{T:List UInt8}{k:Nat}{a b:List UInt8}(h:T.drop k=a++b): T.drop (k+a.length)=b:=by
 rw [←List.drop_drop,h,List.drop_left]
theorem len_by{T:ByteArray}{k:Nat}{a b:List UInt8}{c:UInt8}(h:T.data.toList.drop k=a++c::b): k+a.length<T.size:=by
 have:=congrArg List.length h
 simp at this
 rw [Lib.size_eq];simp;omega
theorem dg_93: ¬Dg 93:=by unfold Dg;decide
theorem dlen_93{T:List UInt8}{k:Nat}{ds r:List UInt8}(h:T.drop k=ds++93::r)(hd:∀b∈ds,Dg b): dlen (T.drop k)=ds.length:=by
 rw [h];exact dlen_all ds _ hd (by intro b hb;simp at hb;subst hb;exact dg_93)
theorem dg_ge{b:UInt8}(h:Dg b): 48≤(b.toNat:Int)∧(b.toNat:Int)≤57:=by unfold Dg at h;omega
theorem num_t4(T:ByteArray)(hs:T.size≤100000)(k:Nat)(xp ds r:List UInt8)(em:Bool)(hl:T.data.toList.drop k=xp++93::r)(hX:Xp em ds xp)(hdd:∀b∈ds,Dg b)(sl:Value)(dd m:Int)(x:Nat)(w:World)(y:Act)(hy:Fz 73 [(0,.pointer (some ⟨x,0,none⟩))] y)(W:World)(H:Hid (SN T k sl dd m x w W))(Q:Exit→Act→World→Prop)(hr:∀(ts:Array Value) W',ts[2]?=some (.bool true)→Hid (SN T (k+xp.length) sl dd m x w W')→Q .ret ⟨ts,[]⟩ W'): (restOf (bodyOf f198) 4).wp prog Q y W:=by
 rcases hX with ⟨_,_,rfl⟩|⟨h0,e,c,rfl,he,hc⟩
 ·obtain ⟨hk,hb⟩ :=byt hl
  show Code.wp _ (Code.seq _ _) _ _ _
  refine wp_seq ?_
  exact p4r rfl T hs k 93 hk hb (by decide) (by decide) sl dd m x w y hy W H _ Q hr
 ·have hl0:T.data.toList.drop k=e::(c++ds++93::r):=by rw [hl];simp
  obtain ⟨hk,hb⟩ :=byt hl0
  have hl1:T.data.toList.drop (k+1)=c++(ds++93::r):=(drop_by (a:=[e]) hl0).trans sM
  have d7:∀k7,T.data.toList.drop k7=ds++93::r→k7+ds.length=k+(e::(c++ds)).length→∀y7 W7,Fz 73 [(0,.pointer (some ⟨x,0,none⟩))] y7→Hid (SN T k7 sl dd m x w W7)→(restOf (bodyOf f198) 7).wp prog Q y7 W7:=by
   intro k7 h7 hk7 y7 W7 hy7 H7
   exact p7 rfl T hs k7 ds.length (by cases ds with|nil=>exact absurd rfl h0|cons a l=>simp) (hid (dlen_93 h7 hdd)) (len_by h7) sl dd m x w y7 hy7 W7 H7 (fun _ _=>True) Q (by rw [hk7];exact hr)
  have tl:∀y5 W5,Fz 73 [(0,.pointer (some ⟨x,0,none⟩))] y5→Hid (SN T k sl dd m x w W5)→(restOf (bodyOf f198) 5).wp prog Q y5 W5:=by
   intro y5 W5 hy5 H5
   show Code.wp _ (Code.seq _ _) _ _ _
   refine wp_seq ?_
   refine p5 rfl T hs k hk sl dd m x w y5 hy5 W5 H5 _ Q ?_
   intro y6 W6 hy6 H6
   show Code.wp _ (Code.seq _ _) _ _ _
   refine wp_seq ?_
   rcases hc with ⟨_,rfl⟩|⟨_,rfl⟩|⟨_,rfl⟩
   ·obtain ⟨b0,l0,rfl⟩:∃b l,ds=b::l:=by cases ds with|nil=>exact absurd rfl h0|cons a l=>exact ⟨a,l,rfl⟩
    obtain ⟨hk6,hb6⟩ :=byt (b:=b0) (by rw [hl1];rfl)
    have hg:=dg_ge (hdd b0 sM)
    exact p6n rfl T hs (k+1) _ hk6 hb6 oM oM sl dd m x w y6 hy6 W6 H6 _ Q (fun y7 W7 hy7 H7=>d7 (k+1) (by rw [hl1];rfl) (by simp;omega) y7 W7 hy7 H7)
   ·obtain ⟨hk6,hb6⟩ :=byt (b:=43) (by rw [hl1];rfl)
    exact p6p rfl T hs (k+1) _ hk6 hb6 (by decide) sl dd m x w y6 hy6 W6 H6 _ Q (fun y7 W7 hy7 H7=>d7 (k+1+1) (drop_by (a:=[43]) hl1) (by simp;omega) y7 W7 hy7 H7)
   ·obtain ⟨hk6,hb6⟩ :=byt (b:=45) (by rw [hl1];rfl)
    exact p6m rfl T hs (k+1) _ hk6 hb6 (by decide) sl dd m x w y6 hy6 W6 H6 _ Q (fun y7 W7 hy7 H7=>d7 (k+1+1) (drop_by (a:=[45]) hl1) (by simp;omega) y7 W7 hy7 H7)
  show Code.wp _ (Code.seq _ _) _ _ _
  refine wp_seq ?_
  rcases he with rfl|rfl
  ·exact p4e rfl T hs k _ hk hb (by decide) sl dd m x w y hy W H _ Q (fun y5 W5 hy5 H5=>tl y5 W5 hy5 H5)
  ·exact p4E rfl T hs k _ hk hb (by decide) sl dd m x w y hy W H _ Q (fun y5 W5 hy5 H5=>tl y5 W5 hy5 H5)
theorem num_t3(T:ByteArray)(hs:T.size≤100000)(k:Nat)(fr fp xp ds r:List UInt8)(em:Bool)(hl:T.data.toList.drop k=fp++(xp++93::r))(hf:(fr=[]∧fp=[])∨(fr≠[]∧fp=46::fr))(hfd:∀b∈fr,Dg b)(hX:Xp em ds xp)(hdd:∀b∈ds,Dg b)(sl:Value)(dd m:Int)(x:Nat)(w:World)(y:Act)(hy:Fz 73 [(0,.pointer (some ⟨x,0,none⟩))] y)(W:World)(H:Hid (SN T k sl dd m x w W))(Q:Exit→Act→World→Prop)(hr:∀(ts:Array Value) W',ts[2]?=some (.bool true)→Hid (SN T (k+fp.length+xp.length) sl dd m x w W')→Q .ret ⟨ts,[]⟩ W'): (restOf (bodyOf f198) 3).wp prog Q y W:=by
 have hx0:∀b l,xp++93::r=b::l→¬Dg b∧b≠46:=by
  intro b l h
  rcases hX with ⟨_,_,rfl⟩|⟨_,e,c,rfl,he,_⟩
  ·injection h with h;subst h;exact ⟨dg_93,by decide⟩
  ·injection h with h;subst h;rcases he with rfl|rfl <;> exact ⟨by unfold Dg;decide,by decide⟩
 obtain ⟨b,l,hbl⟩:∃b l,xp++93::r=b::l:=by cases xp with|nil=>exact ⟨_,_,rfl⟩|cons a l=>exact ⟨_,_,rfl⟩
 show Code.wp _ (Code.seq _ _) _ _ _
 refine wp_seq ?_
 rcases hf with ⟨rfl,rfl⟩|⟨hf0,rfl⟩
 ·obtain ⟨hk,hb⟩ :=byt (b:=b) (l:=l) (by rw [hl,←hbl];rfl)
  exact p3n rfl T hs k _ hk hb (by intro h;exact (hx0 b l hbl).2 (UInt8.toNat_inj.1 (show b.toNat=46 by omega))) sl dd m x w y hy W H _ Q (fun y4 W4 hy4 H4=>num_t4 T hs k xp ds r em (by rw [hl];rfl) hX hdd sl dd m x w y4 hy4 W4 H4 Q hr)
 ·obtain ⟨hk,hb⟩ :=byt (b:=46) (by rw [hl];rfl)
  have hl1:T.data.toList.drop (k+1)=fr++(xp++93::r):=drop_by (a:=[46]) hl
  have hd:dlen (T.data.toList.drop (k+1))=fr.length:=by
   rw [hl1];exact dlen_all fr _ hfd (by intro b' hb';rw [hbl] at hb';simp at hb';subst hb';exact (hx0 b l hbl).1)
  have hlt:k+1+fr.length<T.size:=len_by (a:=fr) (c:=b) (b:=l) (by rw [hl1,hbl])
  exact p3f rfl T hs k _ hk hb (by decide) fr.length (by cases fr with|nil=>exact absurd rfl hf0|cons a l=>simp) (hid hd) hlt sl dd m x w y hy W H _ Q (fun y4 W4 hy4 H4=>num_t4 T hs _ xp ds r em (drop_by hl1) hX hdd sl dd m x w y4 hy4 W4 H4 Q (by rw [show k+1+fr.length=k+(46::fr).length by simp;omega];exact hr))
theorem num_any(T:ByteArray)(hs:T.size≤100000)(k:Nat)(s r:List UInt8)(mi:Bool)(wh fr:List UInt8)(em:Bool)(ds:List UInt8)(hl:T.data.toList.drop k=s++93::r)(hp:Parts s mi wh fr em ds)(sl:Value)(dd m:Int)(x:Nat)(w:World)(h:Sc T k sl dd m x w): Calls prog 198 #[.pointer (some ⟨x,0,none⟩)] w fun e w'=>Sto w (.bool true) T (k+s.length) sl dd m x e w':=by
 obtain ⟨fp,xp,hs0,hf,hX⟩ :=hp.ex
 have hX:Xp em ds xp:=hX
 have h2:∀k2 y W,T.data.toList.drop k2=wh++(fp++(xp++93::r))→k2+wh.length+fp.length+xp.length=k+s.length→Fz 73 [(0,.pointer (some ⟨x,0,none⟩))] y→Hid (SN T k2 sl dd m x w W)→∀Q:Exit→Act→World→Prop,(∀(ts:Array Value) W',ts[2]?=some (.bool true)→Hid (SN T (k+s.length) sl dd m x w W')→Q .ret ⟨ts,[]⟩ W')→(restOf (bodyOf f198) 2).wp prog Q y W:=by
  intro k2 y W hl2 hk2 hy H Q hr
  obtain ⟨b0,l0,hwh⟩:∃b l,wh=b::l:=by cases hw:wh with|nil=>exact absurd hw hp.w0|cons a l=>exact ⟨a,l,rfl⟩
  obtain ⟨hk,hb⟩ :=byt (b:=b0) (l:=l0++(fp++(xp++93::r))) (by rw [hl2,hwh];rfl)
  have t3:∀y3 W3,Fz 73 [(0,.pointer (some ⟨x,0,none⟩))] y3→Hid (SN T (k2+wh.length) sl dd m x w W3)→(restOf (bodyOf f198) 3).wp prog Q y3 W3:=fun y3 W3 hy3 H3=>
   num_t3 T hs (k2+wh.length) fr fp xp ds r em (drop_by hl2) hf hp.fd hX hp.dd sl dd m x w y3 hy3 W3 H3 Q (by rw [hk2];exact hr)
  show Code.wp _ (Code.seq _ _) _ _ _
  refine wp_seq ?_
  by_cases h48:b0=48
  ·have hw1:wh=[48]:=by
    rcases hp.wz with h|h
    ·exact h
    ·exact absurd h48 (h b0 (by rw [hwh];rfl))
   exact p2z rfl T hs k2 _ hk hb (by rw [h48];rfl) sl dd m x w y hy W H _ Q (fun y3 W3 hy3 H3=>t3 y3 W3 hy3 (by rw [hw1];exact H3))
  ·have hnd:∀b,(fp++(xp++93::r)).head?=some b→¬Dg b:=by
    intro b hb
    rcases hf with ⟨_,rfl⟩|⟨_,rfl⟩
    ·rcases hX with ⟨_,_,rfl⟩|⟨_,e,c,rfl,he,_⟩
     ·simp at hb;subst hb;exact dg_93
     ·simp at hb;subst hb;rcases he with rfl|rfl <;> (unfold Dg;decide)
    ·simp at hb;subst hb;unfold Dg;decide
   have hlt:k2+wh.length<T.size:=by
    obtain ⟨b,l,hbl⟩:∃b l,fp++(xp++93::r)=b::l:=by
     cases hq:fp++(xp++93::r) with
     | nil=>simp at hq
     | cons a l=>exact ⟨a,l,rfl⟩
    exact len_by (a:=wh) (c:=b) (b:=l) (by rw [hl2,hbl])
   exact p2d rfl T hs k2 _ hk hb (by intro h;exact h48 (UInt8.toNat_inj.1 (show b0.toNat=48 by omega))) wh.length (by rw [hwh];simp) (hid (by rw [hl2];exact dlen_all wh _ hp.wd hnd)) hlt sl dd m x w y hy W H _ Q t3
 go_enter func198,ntmps198
 refine wp_seq ?_
 refine p0 rfl T hs k sl dd m x w _ (Fz.cons (Fz.mk0 73 _ rfl) 0 _ rfl) w (hid ⟨h,Oth.refl _ _ _⟩) _ _ ?_
 intro y1 W1 hy1 H1
 have hQ:∀(ts:Array Value) W',ts[2]?=some (.bool true)→Hid (SN T (k+s.length) sl dd m x w W')→bodyPost prog f198 (fun e w'=>Sto w (.bool true) T (k+s.length) sl dd m x e w') .ret ⟨ts,[]⟩ W':=by
  intro ts W' h2 HS
  exact bodyPost_ret (v:=.bool true) (by simp [results,results198,go_sem,h2]) rfl ⟨rfl,HS.out.1,HS.out.2⟩
 show Code.wp _ (Code.seq _ _) _ _ _
 refine wp_seq ?_
 cases mi with
 | true=>
  have hl1:T.data.toList.drop k=45::(wh++(fp++(xp++93::r))):=by rw [hl,hs0];simp
  obtain ⟨hk,hb⟩ :=byt hl1
  exact p1s rfl T hs k _ hk hb (by decide) sl dd m x w y1 hy1 W1 H1 _ _ (fun y2 W2 hy2 H2=>h2 (k+1) y2 W2 (drop_by (a:=[45]) hl1) (by rw [hs0];simp;omega) hy2 H2 _ hQ)
 | false=>
  have hl1:T.data.toList.drop k=wh++(fp++(xp++93::r)):=by rw [hl,hs0];simp
  obtain ⟨b0,l0,hwh⟩:∃b l,wh=b::l:=by cases hw:wh with|nil=>exact absurd hw hp.w0|cons a l=>exact ⟨a,l,rfl⟩
  obtain ⟨hk,hb⟩ :=byt (b:=b0) (l:=l0++(fp++(xp++93::r))) (by rw [hl1,hwh];rfl)
  have hg:=dg_ge (hp.wd b0 (by rw [hwh];simp))
  exact p1n rfl T hs k _ hk hb oM sl dd m x w y1 hy1 W1 H1 _ _ (fun y2 W2 hy2 H2=>h2 k y2 W2 hl1 (by rw [hs0];simp;omega) hy2 H2 _ hQ)
end Nn
namespace Nn
open Go.RowKit
theorem Bk.row2{b b2:Nat}{l:List Value}{W:World}(h:Bk b l W)(hne:b≠b2){new:Array Value}: Bk b l (W.setRow b2 new):=
 h.of sM (fun c=>World.cell?_of_block (setRow_other W b2 b new hne)) (fun c=>World.frozen?_of_block (setRow_other W b2 b new hne))
theorem sel_x{r g:Nat}{en:Int}{u:Tok}{t0 ts:List Tok}(A:Int)(i:Int)(la:Bool)(lk ln:Int)(ra:Bool)(rk rn:Int)(hc:XQ 322 r g t0 (u::ts) en 1 i la lk ln ra rk rn)(w:World)(h:Rt w r g (⟨1,⟨#[63]⟩,0,A⟩ ::t0) en 0): Calls prog 280 #[.pointer (some ⟨r,0,none⟩)] w fun e w'=>∃X,e=.returned (.agg #[.int .i64 4,.string ⟨#[]⟩,.int .i64 0,.int .i64 0,.int .i64 0,.int .i64 0,.bool false,.bool false,.pointer (some ⟨X,0,none⟩)])∧QF r w w'∧Rt w' r g (u::ts) en 0∧Bk X [.int .i64 4,.slice none 0 0,.bool false,.slice none 0 0,.int .i64 i,.bool la,.int .i64 lk,.int .i64 ln,.string ⟨#[]⟩,.bool false,.slice none 0 0,.bool ra,.int .i64 rk,.int .i64 rn,.string ⟨#[]⟩,.bool false,.slice none 0 0] w'∧w.heap.size≤X:=by
 have lt:=h.lt
 have glt:=h.glt
 have i1:Is ⟨1,⟨#[63]⟩,0,A⟩ ⟨#[42]⟩ false:=by unfold Is;simp only [ByteArray.toList_eq];decide
 have i2:Is ⟨1,⟨#[63]⟩,0,A⟩ ⟨#[63]⟩ true:=by unfold Is;simp only [ByteArray.toList_eq];decide
 have hK:=fun W h=>kind_t (r:=r) (g:=g) (t:=⟨1,⟨#[63]⟩,0,A⟩) (ts:=t0) (en:=en) (dp:=0) W h
 have hT:=fun W h=>take_n (r:=r) (g:=g) (t:=⟨1,⟨#[63]⟩,0,A⟩) (ts:=t0) (en:=en) (dp:=0) _ i1 W h
 have hI:=fun W h=>is_t (r:=r) (g:=g) (t:=⟨1,⟨#[63]⟩,0,A⟩) (ts:=t0) (en:=en) (dp:=0) _ true i2 W h
 have hO:=fun W h=>open_t (r:=r) (g:=g) (t:=⟨1,⟨#[63]⟩,0,A⟩) (ts:=t0) (en:=en) (dp:=0) (by decide) W h
 have C0:=hid ((CX.start h).add #[.int .i64 0,.string ⟨#[]⟩,.int .i64 0,.int .i64 0,.int .i64 0,.int .i64 0,.bool false,.bool false,.pointer none] 278)
 have OB0:=hid (heap_alloc_new w (.cells #[.int .i64 0,.string ⟨#[]⟩,.int .i64 0,.int .i64 0,.int .i64 0,.int .i64 0,.bool false,.bool false,.pointer none] 278))
 unfold XQ at hc
 clear h
 go_enter func280,ntmps280
 go_wp2_with fail
 generalize (w.alloc _)=W0 at C0 OB0 ⊢
 refine (hK _ C0.out.rt).mono ?_;rintro e w1 ⟨rfl,rfl⟩
 go_wp2_with fail
 refine (hT _ C0.out.rt).mono ?_;rintro e w1 ⟨rfl,rfl⟩
 go_wp2_with fail
 refine (hI _ C0.out.rt).mono ?_;rintro e w1 ⟨rfl,rfl⟩
 go_wp2_with fail
 refine (hO _ C0.out.rt).mono ?_;rintro e w1 ⟨rfl,hf,hn1⟩
 have C1:=hid (C0.out.step hf hn1)
 have OB1:=hid (hf.blk (C0.out.bs _ (.head _)).lt (by simp;omega) OB0.out)
 clear C0 hf hn1 hK hT hI hO
 go_wp2_with fail
 refine (hc _ C1.out.rt).mono ?_;rintro e w2 ⟨rfl,hf,hn1⟩
 have C2:=hid (C1.out.step hf hn1)
 have OB2:=hid (hf.blk (C1.out.bs _ (.head _)).lt (by simp;omega) OB1.out)
 have OB3:=hid (alloc_blk (w2.setCell ⟨r,4,none⟩ (.int .i64 0)) (.cells #[.int .i64 4,.slice none 0 0,.bool false,.slice none 0 0,.int .i64 i,.bool la,.int .i64 lk,.int .i64 ln,.string ⟨#[]⟩,.bool false,.slice none 0 0,.bool ra,.int .i64 rk,.int .i64 rn,.string ⟨#[]⟩,.bool false,.slice none 0 0] 287) ((Below.heap_setCell w2 ⟨r,4,none⟩ (.int .i64 0) w.heap.size (by simp;omega)).trans OB2.out))
 clear OB0 OB1 OB2
 clear C1 hf hn1 hc
 have rl:=C2.out.rt.lt
 have:r<w2.heap.size+1:=oM
 have c4:=C2.out.rt.c4
 have f4:=C2.out.rt.f4
 have hsz:(w2.setCell ⟨r,4,none⟩ (.int .i64 0)).heap.size=w2.heap.size:=by simp [World.setCell]
 have xl:=(C2.out.bs _ (.head _)).lt
 have C3:=hid ((C2.out.setD 0).add #[.int .i64 4,.slice none 0 0,.bool false,.slice none 0 0,.int .i64 i,.bool la,.int .i64 lk,.int .i64 ln,.string ⟨#[]⟩,.bool false,.slice none 0 0,.bool ra,.int .i64 rk,.int .i64 rn,.string ⟨#[]⟩,.bool false,.slice none 0 0] 287)
 rw [hsz] at C3
 go_wp2_with (first|((with_reducible show wpList _ _ _ (⟨_,Op.store 278 _ _,_,_,_,_⟩ ::_) _ _);refine wpList_store_row rfl 278 _ _ rfl w.heap.size #[.int .i64 4,.string ⟨#[]⟩,.int .i64 0,.int .i64 0,.int .i64 0,.int .i64 0,.bool false,.bool false,.pointer (some ⟨w2.heap.size,0,none⟩)] rfl rfl 278 #[.int .i64 0,.string ⟨#[]⟩,.int .i64 0,.int .i64 0,.int .i64 0,.int .i64 0,.bool false,.bool false,.pointer none] OB3.out (by kernel_rfl) rfl (by kernel_rfl) ?_))
 have hX:w.heap.size≤w2.heap.size:=C2.out.qf.gr.size
 have BX:=hid (C3.out.bs _ (.head _))
 clear C2 c4 f4
 generalize (World.alloc (w2.setCell _ _) _)=W3 at C3 BX OB3 ⊢
 have C4:=hid (C3.out.row lt (.tail _ (.head _)) OB3.out (new:=(#[.int .i64 4,.string ⟨#[]⟩,.int .i64 0,.int .i64 0,.int .i64 0,.int .i64 0,.bool false,.bool false,.pointer (some ⟨w2.heap.size,0,none⟩)]:Array Value)))
 have BX4:=hid (BX.out.row2 (by simp only at xl ⊢;omega) (new:=(#[.int .i64 4,.string ⟨#[]⟩,.int .i64 0,.int .i64 0,.int .i64 0,.int .i64 0,.bool false,.bool false,.pointer (some ⟨w2.heap.size,0,none⟩)]:Array Value)) (b2:=w.heap.size))
 clear C3 BX OB3
 generalize (World.setRow _ _ _)=W4 at C4 BX4 ⊢
 have t0:=C4.out.cell (b:=w.heap.size) (.head _) 0 _ rfl
 have t1:=C4.out.cell (b:=w.heap.size) (.head _) 1 _ rfl
 have t2:=C4.out.cell (b:=w.heap.size) (.head _) 2 _ rfl
 have t3:=C4.out.cell (b:=w.heap.size) (.head _) 3 _ rfl
 have t4:=C4.out.cell (b:=w.heap.size) (.head _) 4 _ rfl
 have t5:=C4.out.cell (b:=w.heap.size) (.head _) 5 _ rfl
 have t6:=C4.out.cell (b:=w.heap.size) (.head _) 6 _ rfl
 have t7:=C4.out.cell (b:=w.heap.size) (.head _) 7 _ rfl
 have t8:=C4.out.cell (b:=w.heap.size) (.head _) 8 _ rfl
 refine bodyPost_ret (v:=.agg #[.int .i64 4,.string ⟨#[]⟩,.int .i64 0,.int .i64 0,.int .i64 0,.int .i64 0,.bool false,.bool false,.pointer (some ⟨w2.heap.size,0,none⟩)]) (by simp [results,results280,go_sem, *]) rfl ⟨w2.heap.size,rfl,C4.out.qf,C4.out.rt,BX4.out,hX⟩
theorem CX.ins{w0 W:World}{r g:Nat}{ts:List Tok}{en dp:Int}{L:List (Nat × List Value)}(h:CX w0 r g ts en dp L W){b:Nat}{l:List Value}(hb:Bk b l W)(h0:w0.heap.size≤b)(h1:r≠b)(h2:b≠g): CX w0 r g ts en dp ((b,l)::L) W:=
 ⟨h.rt,h.qf,fun q hq=>by
  rcases List.mem_cons.1 hq with rfl|hq
  ·exact hb
  ·exact h.bs q hq,fun q hq=>by
  rcases List.mem_cons.1 hq with rfl|hq
  ·exact ⟨h0,h1,h2⟩
  ·exact h.ne q hq⟩
def SelP (w:World) (r g:Nat) (en:Int) (ts:List Tok) (i:Int) (la:Bool) (lk ln:Int) (ra:Bool) (rk rn:Int) (S X:Nat) (w':World):Prop:=QF r w w'∧Rt w' r g ts en 0∧Bk S [.int .i64 4,.string ⟨#[]⟩,.int .i64 0,.int .i64 0,.int .i64 0,.int .i64 0,.bool false,.bool false,.pointer (some ⟨X,0,none⟩)] w'∧Bk X [.int .i64 4,.slice none 0 0,.bool false,.slice none 0 0,.int .i64 i,.bool la,.int .i64 lk,.int .i64 ln,.string ⟨#[]⟩,.bool false,.slice none 0 0,.bool ra,.int .i64 rk,.int .i64 rn,.string ⟨#[]⟩,.bool false,.slice none 0 0] w'∧w.heap.size≤S∧w.heap.size≤X
theorem sels_x{r g:Nat}{en:Int}{t0 ts:List Tok}(A A1 A2:Int)(i:Int)(la:Bool)(lk ln:Int)(ra:Bool)(rk rn:Int)(hc:XQ 322 r g t0 (⟨1,⟨#[93]⟩,0,A2⟩ ::ts) en 1 i la lk ln ra rk rn)(w:World)(h:Rt w r g (⟨1,⟨#[91]⟩,0,A1⟩ ::⟨1,⟨#[63]⟩,0,A⟩ ::t0) en 0): Calls prog 215 #[.pointer (some ⟨r,0,none⟩)] w fun e w'=>∃S X,e=.returned (.slice (some ⟨S,0,none⟩) 1 1)∧SelP w r g en ts i la lk ln ra rk rn S X w':=by
 have lt:=h.lt
 have glt:=h.glt
 have i1:Is ⟨1,⟨#[91]⟩,0,A1⟩ ⟨#[91]⟩ true:=by unfold Is;simp only [ByteArray.toList_eq];decide
 have i2:Is ⟨1,⟨#[93]⟩,0,A2⟩ ⟨#[44]⟩ false:=by unfold Is;simp only [ByteArray.toList_eq];decide
 have i3:Is ⟨1,⟨#[93]⟩,0,A2⟩ ⟨#[93]⟩ true:=by unfold Is;simp only [ByteArray.toList_eq];decide
 have hM:=fun W h=>must_t (r:=r) (g:=g) (t:=⟨1,⟨#[91]⟩,0,A1⟩) (ts:=⟨1,⟨#[63]⟩,0,A⟩ ::t0) (en:=en) (dp:=0) _ i1 W h
 have hS:=fun W h=>sel_x (r:=r) (g:=g) (en:=en) (u:=⟨1,⟨#[93]⟩,0,A2⟩) (t0:=t0) (ts:=ts) A i la lk ln ra rk rn hc W h
 have hT:=fun W h=>take_n (r:=r) (g:=g) (t:=⟨1,⟨#[93]⟩,0,A2⟩) (ts:=ts) (en:=en) (dp:=0) _ i2 W h
 have hE:=fun W h=>must_t (r:=r) (g:=g) (t:=⟨1,⟨#[93]⟩,0,A2⟩) (ts:=ts) (en:=en) (dp:=0) _ i3 W h
 have C0:=hid (CX.start h)
 clear h hc
 go_enter func215,ntmps215
 go_wp2_with fail
 refine (hM _ C0.out.rt).mono ?_;rintro e w1 ⟨rfl,hf,hn1⟩
 have C1:=hid (C0.out.step hf hn1)
 clear C0 hf hn1 hM
 go_wp2_with fail
 refine (hS _ C1.out.rt).mono ?_;rintro e w2 ⟨X,rfl,hf,hn1,hBX,hX⟩
 have lr:=C1.out.rt.lt
 have lg:=C1.out.rt.glt
 have C2:=hid (((C1.out.step hf hn1).ins hBX (Nat.le_trans C1.out.qf.gr.size hX) oM oM).add #[.int .i64 4,.string ⟨#[]⟩,.int .i64 0,.int .i64 0,.int .i64 0,.int .i64 0,.bool false,.bool false,.pointer (some ⟨X,0,none⟩)] 278)
 clear C1 hf hn1 hS hBX
 go_wp2_with (first|(refine wp_loop_unr 1 ?_;refine Unr.step ?_;intro U hU))
 generalize (w2.alloc _)=W2 at C2 ⊢
 generalize w2.heap.size=S at C2 ⊢
 refine (hT _ C2.out.rt).mono ?_;rintro e w3 ⟨rfl,rfl⟩
 go_wp2_with fail
 refine (hE _ C2.out.rt).mono ?_;rintro e w4 ⟨rfl,hf,hn1⟩
 have C3:=hid (C2.out.step hf hn1)
 clear C2 hf hn1 hE
 go_wp2_with fail
 go_ret
 exact ⟨S,X,rfl,C3.out.qf,C3.out.rt,C3.out.bs _ (.head _),C3.out.bs _ (.tail _ (.head _)),(C3.out.ne _ (.head _)).1,(C3.out.ne _ (.tail _ (.head _))).1⟩
theorem seg_x{r g:Nat}{en:Int}{t0 ts:List Tok}(A A1 A2:Int)(i:Int)(la:Bool)(lk ln:Int)(ra:Bool)(rk rn:Int)(hc:XQ 322 r g t0 (⟨1,⟨#[93]⟩,0,A2⟩ ::ts) en 1 i la lk ln ra rk rn)(w:World)(h:Rt w r g (⟨1,⟨#[91]⟩,0,A1⟩ ::⟨1,⟨#[63]⟩,0,A⟩ ::t0) en 0): Calls prog 154 #[.pointer (some ⟨r,0,none⟩)] w fun e w'=>∃S X,e=.returned (.agg #[.bool false,.slice (some ⟨S,0,none⟩) 1 1])∧SelP w r g en ts i la lk ln ra rk rn S X w':=by
 have lt:=h.lt
 have glt:=h.glt
 have i1:Is ⟨1,⟨#[91]⟩,0,A1⟩ ⟨#[91]⟩ true:=by unfold Is;simp only [ByteArray.toList_eq];decide
 have hI:=fun W h=>is_t (r:=r) (g:=g) (t:=⟨1,⟨#[91]⟩,0,A1⟩) (ts:=⟨1,⟨#[63]⟩,0,A⟩ ::t0) (en:=en) (dp:=0) _ true i1 W h
 have hS:=fun W h=>sels_x (r:=r) (g:=g) (en:=en) (t0:=t0) (ts:=ts) A A1 A2 i la lk ln ra rk rn hc W h
 have C0:=hid ((CX.start h).add #[.bool false,.slice none 0 0] 269)
 clear h hc
 go_enter func154,ntmps154
 go_wp2_with fail
 generalize (w.alloc _)=W0 at C0 ⊢
 refine (hI _ C0.out.rt).mono ?_;rintro e w1 ⟨rfl,rfl⟩
 go_wp2_with fail
 refine (hS _ C0.out.rt).mono ?_;rintro e w2 ⟨S,X,rfl,hf,hn1,hBS,hBX,hS,hX⟩
 have lr:=C0.out.rt.lt
 have lg:=C0.out.rt.glt
 have hl:=(C0.out.bs _ (.head _)).lt
 have hq:=C0.out.qf.gr.size
 have C2:=hid (((C0.out.step hf hn1).ins hBX (Nat.le_trans hq hX) oM oM).ins hBS (Nat.le_trans hq hS) oM oM)
 simp only at hl
 have:S≠w.heap.size:=oM
 have:X≠w.heap.size:=oM
 clear hf hn1 hBX hBS C0
 have x0:=C2.out.cell (b:=w.heap.size) (.tail _ (.tail _ (.head _))) 0 _ rfl
 have x1:=C2.out.cell (b:=w.heap.size) (.tail _ (.tail _ (.head _))) 1 _ rfl
 have y0:=C2.out.fz (b:=w.heap.size) (.tail _ (.tail _ (.head _))) 0 sM
 have y1:=C2.out.fz (b:=w.heap.size) (.tail _ (.tail _ (.head _))) 1 sM
 have xl:=(C2.out.bs _ (.tail _ (.tail _ (.head _)))).lt
 go_wp2_with fail
 refine bodyPost_ret (v:=.agg #[.bool false,.slice (some ⟨S,0,none⟩) 1 1]) (by simp [results,results154,go_sem, *]) rfl ⟨S,X,rfl,(by (repeat' (first|refine QF.new ?_ aM tq5 _|(refine QF.alloc ?_ aM _)|(refine QF.drewN ?_ aM _)|(refine QF.drew ?_ aM)|refine QF.set ?_ (by first|rfl|(simp;done)) _|assumption|exact CX.qf (Hid.out aM)|exact QF.refl _ _))),(by repeat' (first|refine Rt.setO ?_ tq5 tq5 _|refine Rt.below ?_ (qR.alloc qL _)|refine Rt.below ?_ (below_drewN' qR _)|refine Rt.below ?_ (Below.drew qR)|assumption|exact CX.rt (Hid.out aM))),((C2.out.bs _ (.head _)).setO (by simp;omega) _).setO (by simp;omega) _,((C2.out.bs _ (.tail _ (.head _))).setO (by simp;omega) _).setO (by simp;omega) _,(C2.out.ne _ (.head _)).1,(C2.out.ne _ (.tail _ (.head _))).1⟩
end Nn
end Go.Proofs.YtjcioljdlfdnbaaGreatDoor
