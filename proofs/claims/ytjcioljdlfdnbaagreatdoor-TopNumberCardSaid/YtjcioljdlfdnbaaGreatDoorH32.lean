/- Part 32: lemmas for TopNumber; no conditions. -/
import Derived.Test.YtjcioljdlfdnbaaGreatDoorH23
import Derived.Test.YtjcioljdlfdnbaaGreatDoorH31
import Derived.Lib.AppendIntMem
set_option linter.unusedVariables false
set_option linter.unusedSimpArgs false
set_option maxRecDepth 100000
set_option maxHeartbeats 2000000
open Go.Proofs.Tryz
namespace Go.Proofs.YtjcioljdlfdnbaaGreatDoor
section
open Go.RowKit
theorem do_v9(p n L:Nat)(T V:ByteArray)(hD:Doc T V n L)(c:Int)(k:Nat)(hV:0<V.size)(hc:((V[0]'hV).toNat:Int)=c)(hk:Kd c k)(hk4:k<4)(C:ByteArray)(hCs:C.size≤100000)(s:Nat)(w:World)(hX:Ix w p T n)(hLf:LeafP w p C)(hS:Se w s p n): Calls prog 17 #[.agg #[.pointer (some ⟨s,0,none⟩)],.string ⟨#[118,97,108,117,101,115,32,48,32,57,32,36,91,48,93]⟩] w fun e w'=>e=.returned (.string (⟨#[111,107,32,49]⟩ ++(⟨#[10]⟩ ++C)))∧Below w.heap.size w w':=by
 go_enter func17,ntmps17
 go_wp2_with fail
 refine (scut_2 _).mono ?_;rintro e w1 ⟨rfl,hb1⟩
 have s1:=hb1.size;try simp at s1
 try (have:w.heap.size<w1.heap.size:=oM)
 try (have:w.heap.size<w1.heap.size+1:=oM)
 try (have:w.heap.size<w1.heap.size+1+1:=oM)
 try (have e1_0_0_0:=hb1.cl w.heap.size 0;simp [go_sem, *] at e1_0_0_0)
 try (have f1_0_0_0:=hb1.fz w.heap.size 0;simp [go_sem, *] at f1_0_0_0)
 have HB1:=bel_step (w:=w) tq4 hb1
 clear hb1
 go_wp2_with fail
 refine (commands_any _).mono ?_;rintro e w2 ⟨b,rfl,hC,hb2⟩
 have s2:=hb2.size;try simp at s2
 try (have:w.heap.size<w2.heap.size:=oM)
 try (have:w.heap.size<w2.heap.size+1:=oM)
 try (have:w.heap.size<w2.heap.size+1+1:=oM)
 try (have e2_0_0_0:=hb2.cl w.heap.size 0;simp [go_sem, *] at e2_0_0_0)
 try (have f2_0_0_0:=hb2.fz w.heap.size 0;simp [go_sem, *] at f2_0_0_0)
 have HB2:=bel_step (w:=w) tq4 hb2
 clear hb2
 obtain ⟨es,cl,hbk,h1,h2⟩ :=hC
 have hlk:=run_look hbk h1
 clear h1 h2
 go_wp2_with fail
 refine (values_9 p n L T V hD c k hV hc hk hk4 C hCs s _ (hX.below tq4) (hLf.below tq4) (hS.below tq4)).mono ?_;rintro e w3 ⟨rfl,hb3⟩
 have s3:=hb3.size;try simp at s3
 try (have:w.heap.size<w3.heap.size:=oM)
 try (have:w.heap.size<w3.heap.size+1:=oM)
 try (have:w.heap.size<w3.heap.size+1+1:=oM)
 try (have e3_0_0_0:=hb3.cl w.heap.size 0;simp [go_sem, *] at e3_0_0_0)
 try (have f3_0_0_0:=hb3.fz w.heap.size 0;simp [go_sem, *] at f3_0_0_0)
 have HB3:=bel_step (w:=w) tq4 hb3
 clear hb3
 go_wp2_with fail
 go_ret
 exact ⟨rfl,tq4⟩
theorem open_1(T:ByteArray)(n L:Nat)(c:Int)(hT:ScT T n L c)(h10:T.data.toList.contains 10=false)(dp:Nat)(hd:1≤dp)(hd2:dp≤4096)(hZ:Ms T 0 false [((0:Int),(91:Int)),((L:Int),(93:Int))])(ln lc:Nat)(q:Nat)(w:World)(hTb:Tab w): Calls prog 15 #[.agg #[.string T,.int .i64 (dp:Nat),.string ⟨#[]⟩,.slice (some ⟨ln,0,none⟩) q lc]] w fun e w'=>∃s p,e=.returned (.tuple #[.pointer (some ⟨s,0,none⟩),.int .i64 0])∧Se w' s p n∧Ix w' p T n∧Below w.heap.size w w':=by
 have H10:=hid h10
 clear h10
 go_enter func15,ntmps15
 go_wp2_with fail
 refine (build_1 T n L c hT H10.out dp hd hd2 hZ _ (hTb.below tq4)).mono ?_;rintro e w1 ⟨s,p,rfl,hS,hX,hb1⟩
 go_wp2_with fail
 go_ret2
 exact ⟨s,p,rfl,hS,hX,(qR.alloc qL _).trans (hb1.mono sM)⟩
def Runs1 (w:World) (A:ByteArray) (e:Ending) (w':World):Prop:=∃g cc,e=.returned (.slice (some ⟨g,0,none⟩) 1 cc)∧(g<w'.heap.size∧w'.cell? ⟨g,0,none⟩=some (.string A))∧Below w.heap.size w w'
def Runs2 (w:World) (A B:ByteArray) (e:Ending) (w':World):Prop:=∃g cc,e=.returned (.slice (some ⟨g,0,none⟩) 2 cc)∧(g<w'.heap.size∧w'.cell? ⟨g,0,none⟩=some (.string A)∧w'.cell? ⟨g,1,none⟩=some (.string B))∧Below w.heap.size w w'
theorem run_9(T:ByteArray)(n L:Nat)(c:Int)(hT:ScT T n L c)(h10:T.data.toList.contains 10=false)(dp:Nat)(hd:1≤dp)(hd2:dp≤4096)(hZ:Ms T 0 false [((0:Int),(91:Int)),((L:Int),(93:Int))])(ln lc:Nat)(V:ByteArray)(hD:Doc T V n L)(k:Nat)(hV:0<V.size)(hc:((V[0]'hV).toNat:Int)=c)(hk:Kd c k)(hk4:k<4)(C:ByteArray)(hCs:C.size≤100000)(w:World)(hTb:Tab w)(ll:ln<w.heap.size)(hl0:w.cell? ⟨ln,0,none⟩=some (.string ⟨#[118,97,108,117,101,115,32,48,32,57,32,36,91,48,93]⟩))(hLf:∀(p:Nat) (W:World),Ix W p T n→LeafP W p C): Calls prog 9 #[.agg #[.string T,.int .i64 (dp:Nat),.string ⟨#[]⟩,.slice (some ⟨ln,0,none⟩) 1 lc]] w fun e w'=>Runs1 w (⟨#[111,107,32,49]⟩ ++(⟨#[10]⟩ ++C)) e w':=by
 have H10:=hid h10
 clear h10
 obtain ⟨i0,hi0,hz0,hs0,hb0⟩ :=info_parts info9
 have:ln<w.heap.size+1:=oM
 go_enter func9,ntmps9
 go_wp2_with fail
 refine (open_1 T n L c hT H10.out dp hd hd2 hZ ln lc 1 _ (hTb.below tq4)).mono ?_;rintro e w1 ⟨s,p,rfl,hS,hX,hb1⟩
 have s1:=hb1.size;try simp at s1
 have k0:=hb1.cell (p:=⟨w.heap.size,3,none⟩) sM;simp [go_sem] at k0
 have:w.heap.size<w1.heap.size:=oM
 have HB1:=bel_step (w:=w) tq4 hb1
 replace hl0:=(HB1.out.cell (p:=⟨ln,0,none⟩) ll).trans hl0
 have ll2:ln<w1.heap.size:=oM
 clear hb1
 go_wp2_with (first|(refine wp_loop_unr 2 ?_;refine Unr.step ?_;intro U hU)|(refine Unr.step ?_;intro U hU))
 refine (do_v9 p n L T V hD c k hV hc hk hk4 C hCs s _ hX (hLf p _ hX) hS).mono ?_;rintro e w2 ⟨rfl,hb⟩
 have HX2:=hid (hX.below hb)
 have HS2:=hid (hS.below hb)
 have HB2:Hid (Below w.heap.size w w2):=hid (HB1.out.trans (hb.mono HB1.out.size))
 have ll3:ln<w2.heap.size:=Nat.lt_of_lt_of_le ll2 hb.size
 clear hb
 go_wp2_with (first|(at_builtin;refine wpList_push rfl _ _ 24 rfl 9 i0 _ 1 16 underlying24 hi0 hz0 hs0 hb0 rfl oM (Acc.nil qR 9 1) rfl rfl sM rfl rfl oM oM ?_;intro g0 c0 w3 hA;have HA3:=hid hA;have hb:=hA.bel;have HX3:=hid (HX2.out.below hb);have HS3:=hid (HS2.out.below hb);have HB3:Hid (Below w.heap.size w w3):=hid (HB2.out.trans (hb.mono HB2.out.size));have:ln<w3.heap.size:=Nat.lt_of_lt_of_le ll3 hb.size;clear hb hA)|(refine wp_loop_unr 2 ?_;refine Unr.step ?_;intro U hU)|(refine Unr.step ?_;intro U hU))
 have hr:=HA3.out.row
 go_ret
 exact ⟨g0,c0,rfl,⟨hr.2.1,hr.2.2 0 _ rfl⟩,HB3.out⟩
end
namespace Nn
open Go.RowKit
open Np
def P10 (w:World):Prop:=Lib.TabIs prog w "internal/strconv.uint64pow10" .u64 Lib.pow10Tab
theorem P10.below{w w':World}(h:P10 w)(hb:Below w.heap.size w w'): P10 w':=Lib.tabBelow_of_tabIs h w' hb
theorem fmt_any(n:Int)(hn:n.natAbs<10 ^ 16)(w:World)(h:P10 w): Calls prog 382 #[.int .i64 n,.int .i64 10] w fun e w'=>e=.returned (.string ⟨(Lib.itoa n).toArray⟩)∧Below w.heap.size w w':=
 (Tryz.strconv_FormatInt_10 n oM oM w h).mono (by rintro e w' ⟨rfl,k,os,rfl⟩;exact ⟨rfl,Lib.below_grow _ _ qL k os⟩)
theorem nwhole(n:Int)(hn:n.natAbs<10 ^ 16)(w:World)(hP:P10 w): Calls prog 398 #[.int .i64 n] w fun e w'=>VaP (nva n) e w.heap.size w w':=by
 have hf:=fun V (hb:Below w.heap.size w V)=>fmt_any n hn V (hP.below hb)
 obtain ⟨hd,-,-,-,-⟩ :=dec_facts n.natAbs
 obtain ⟨N,hN⟩:∃N:ByteArray,N=⟨(Lib.itoa n).toArray⟩ :=⟨_,rfl⟩
 rw [←hN] at hf
 have hNl:N.data.toList=Lib.itoa n:=by rw [hN]
 have hlen:=nds_len n hn
 obtain ⟨k,hk⟩:∃k:Nat,(nds n).length=k:=⟨_,rfl⟩
 rw [hk] at hlen
 by_cases h:n<0
 ·have g1:decide (n<0)=true:=by rw [decide_eq_true_eq];exact h
  have hNl:N.data.toList=45::nds n:=by rw [hNl];unfold Lib.itoa nds;rw [if_pos h]
  have:1≤N.size:=by rw [Lib.size_eq,hNl];simp
  have:¬((N.size:Int)<1):=oM
  obtain ⟨u,hu,hul⟩ :=ext_e N 1
  rw [hNl] at hul
  simp only [List.drop_succ_cons,List.drop_zero] at hul
  have hus:u.size=k:=by rw [Lib.size_eq,hul,hk]
  have ht:=fun V=>ntrim true u k oM (by rw [hul];exact hd) oM oM V
  rw [hul,←hk] at ht
  have hv:va true (dig (nds n)) (((nds n).length:Nat):Int)=nva n:=by unfold nva;rw [g1]
  rw [hv,hk] at ht
  generalize nva n=v at ht ⊢
  clear hd hN hNl hul hv hk hP
  go_enter func398,ntmps398
  go_wp2_with (first|(go_at_call 382;refine (hf _ tq4).mono ?_;rintro e w1 ⟨rfl,hb1⟩))
  refine (ht _).mono ?_
  rintro e w2 ⟨D,rfl,h1,h2,hb2⟩
  have r:=((Bk.new w #[.bool false,.string ⟨#[]⟩,.int .i64 0] 475).below hb1).below hb2
  have r0:=r.c 0 _ rfl;have r1:=r.c 1 _ rfl;have r2:=r.c 2 _ rfl
  have s0:=r.z 0 sM;have s1:=r.z 1 sM;have s2:=r.z 2 sM
  have hbb:Below w.heap.size w w2:=by
   have x:=((Below.refl w.heap.size w).alloc qL (.cells #[.bool false,.string ⟨#[]⟩,.int .i64 0] 475)).trans (hb1.mono sM)
   exact x.trans (hb2.mono x.size)
  have HP:=hid (And.intro h1 (And.intro h2 hbb))
  clear h1 h2 hb1 hb2 hbb r
  go_wp2_with fail
  refine bodyPost_ret (v:=.agg #[.bool v.mi,.string D,.int .i64 v.p]) (by simp [results,results398,go_sem, *]) rfl ?_
  obtain ⟨h1,h2,hb⟩ :=HP.out
  exact ⟨D,rfl,h1,h2,by repeat' (first|refine Below.setCell ?_ (by first|exact qL|omega) _|refine below_drewN' ?_ _|refine Below.drew ?_|exact hb)⟩
 ·have g1:decide (n<0)=false:=by rw [decide_eq_false_iff_not];exact h
  have hNl:N.data.toList=nds n:=by rw [hNl];unfold Lib.itoa nds;rw [if_neg h,show n.toNat=n.natAbs by omega]
  have hus:N.size=k:=by rw [Lib.size_eq,hNl,hk]
  have ht:=fun V=>ntrim false N k oM (by rw [hNl];exact hd) oM oM V
  rw [hNl,←hk] at ht
  have hv:va false (dig (nds n)) (((nds n).length:Nat):Int)=nva n:=by unfold nva;rw [g1]
  rw [hv,hk] at ht
  generalize nva n=v at ht ⊢
  clear hd hN hNl hv hk hP
  go_enter func398,ntmps398
  go_wp2_with (first|(go_at_call 382;refine (hf _ tq4).mono ?_;rintro e w1 ⟨rfl,hb1⟩))
  refine (ht _).mono ?_
  rintro e w2 ⟨D,rfl,h1,h2,hb2⟩
  have r:=((Bk.new w #[.bool false,.string ⟨#[]⟩,.int .i64 0] 475).below hb1).below hb2
  have r0:=r.c 0 _ rfl;have r1:=r.c 1 _ rfl;have r2:=r.c 2 _ rfl
  have s0:=r.z 0 sM;have s1:=r.z 1 sM;have s2:=r.z 2 sM
  have hbb:Below w.heap.size w w2:=by
   have x:=((Below.refl w.heap.size w).alloc qL (.cells #[.bool false,.string ⟨#[]⟩,.int .i64 0] 475)).trans (hb1.mono sM)
   exact x.trans (hb2.mono x.size)
  have HP:=hid (And.intro h1 (And.intro h2 hbb))
  clear h1 h2 hb1 hb2 hbb r
  go_wp2_with fail
  refine bodyPost_ret (v:=.agg #[.bool v.mi,.string D,.int .i64 v.p]) (by simp [results,results398,go_sem, *]) rfl ?_
  obtain ⟨h1,h2,hb⟩ :=HP.out
  exact ⟨D,rfl,h1,h2,by repeat' (first|refine Below.setCell ?_ (by first|exact qL|omega) _|refine below_drewN' ?_ _|refine Below.drew ?_|exact hb)⟩
theorem side_of{v:Va}{D:ByteArray}(h:dig D.data.toList=v.T): (if D.data.toList=[] then (0:Int) else if v.mi then -1 else 1)=side v:=by
 have:D.data.toList=[]↔v.T=[]:=by rw [←h];unfold dig;simp
 unfold side
 simp only [this]
theorem ite_bd(x y:Nat)(z:Int)(h:-1≤z∧z≤1): -1≤(if x<y then (-1:Int) else if y<x then 1 else z)∧(if x<y then (-1:Int) else if y<x then 1 else z)≤1:=by
 split
 ·omega
 ·split
  ·omega
  ·exact h
theorem lexn_bd: ∀(n:Nat) (a b:List Nat),-1≤lexn n a b∧lexn n a b≤1:=by
 intro n
 induction n with
 | zero=>intro a b;simp [lexn]
 | succ n ih=>intro a b;exact ite_bd _ _ _ (ih a.tail b.tail)
theorem wrap_sp(A B:Va): IntKind.i64.wrap (side A * psize A B)=side A * psize A B:=by
 have h1:side A=0∨side A=-1∨side A=1:=by
  unfold side
  split
  ·exact .inl rfl
  ·split
   ·exact .inr (.inl rfl)
   ·exact .inr (.inr rfl)
 have:-1≤psize A B∧psize A B≤1:=by
  unfold psize
  split
  ·omega
  ·split
   ·omega
   ·exact lexn_bd _ _ _
 rcases h1 with h|h|h <;> rw [h] <;> refine IntWalk.i64_in _ ?_ <;> omega
structure CmH (w:World) (P:Nat) (A B:Va) (D D':ByteArray) (V:World):Prop where
 a:Bk P [.bool A.mi,.string D,.int .i64 A.p] V
 b:Bk (P+1) [.bool B.mi,.string D',.int .i64 B.p] V
 l:Below w.heap.size w V
theorem cm_below{w:World}{P:Nat}{A B:Va}{D D':ByteArray}{V V':World}(h:Hid (CmH w P A B D D' V))(hb:Below V.heap.size V V'): Hid (CmH w P A B D D' V'):=
 hid ⟨h.out.a.below hb,h.out.b.below hb,h.out.l.trans (hb.mono h.out.l.size)⟩
theorem cm_drew{w:World}{P:Nat}{A B:Va}{D D':ByteArray}{V:World}(h:Hid (CmH w P A B D D' V)): Hid (CmH w P A B D D' V.drew):=cm_below h qR.drew
theorem cm_held{w:World}{P:Nat}{A B:Va}{D D':ByteArray}{V:World}(h:Hid (CmH w P A B D D' V)): V.cell? ⟨P,0,none⟩=some (.bool A.mi)∧V.cell? ⟨P,1,none⟩=some (.string D)∧V.cell? ⟨P,2,none⟩=some (.int .i64 A.p)∧V.cell? ⟨P+1,0,none⟩=some (.bool B.mi)∧V.cell? ⟨P+1,1,none⟩=some (.string D')∧V.cell? ⟨P+1,2,none⟩=some (.int .i64 B.p)∧Hid (CmH w P A B D D' V):=
 ⟨h.out.a.c 0 _ rfl,h.out.a.c 1 _ rfl,h.out.a.c 2 _ rfl,h.out.b.c 0 _ rfl,h.out.b.c 1 _ rfl,h.out.b.c 2 _ rfl,h⟩
theorem ncmp(s:ByteArray)(mi em:Bool)(wh fr ds:List UInt8)(n:Int)(hs:s.size≤100)(hp:Parts s.data.toList mi wh fr em ds)(hl:wh.length+fr.length≤100)(hds:ds.length≤900)(hn:n.natAbs<10 ^ 16)(w:World)(hP:P10 w): Calls prog 389 #[.string s,.int .i64 n] w fun e w'=>e=.returned (.int .i64 (rcmp mi wh fr em ds n))∧Below w.heap.size w w':=by
 have hsp:=fun V=>split_any s mi wh fr em ds hs hp V
 have hr:=fun W F E h1 h2 h3 V=>nread mi em wh fr ds W F E h1 h2 h3 hl hds hp.wd hp.fd hp.dd V
 have hq:=fun V (hb:Below w.heap.size w V)=>nwhole n hn V (hP.below hb)
 have hz:=pcmp_rcmp mi wh fr em ds n hl hn
 rw [←hz]
 generalize sva mi wh fr em ds=A at hr ⊢
 generalize nva n=B at hq ⊢
 obtain ⟨z0,hz0⟩:∃z,pcmp A B=z:=⟨_,rfl⟩
 rw [hz0]
 clear hz hP hp
 go_enter func389,ntmps389
 go_wp2_with fail
 refine (hsp _).mono ?_
 rintro e w1 ⟨W,F,E,rfl,hW,hF,hE,hb1⟩
 have hr:=hr W F E hW hF hE
 have HB1:=hid hb1
 clear hW hF hE hb1
 go_wp2_with fail
 refine (hr _).mono ?_
 rintro e w2 ⟨D,rfl,d1,d2,hb2⟩
 have HB2:=bel_step (w:=w) (HB1.out.alloc HB1.out.size _) hb2
 have h1:=side_of d1
 have HD:=hid d2
 clear hb2 d2 hr
 go_wp2_with fail
 refine (hq _ HB2.out).mono ?_
 rintro e w3 ⟨D',rfl,d3,d4,hb3⟩
 have HB3:=bel_step (w:=w) HB2.out hb3
 have h2:=side_of d3
 have HD':=hid d4
 have hN1:=fun V=>nside A.mi D A.p V
 have hN2:=fun V=>nside B.mi D' B.p V
 rw [h1] at hN1
 rw [h2] at hN2
 clear hb3 d4 hq HB1 HB2 hsp hs hl hds
 go_wp2_with fail
 have H0:Hid (CmH w w3.heap.size A B D D' ((w3.alloc (.cells #[.bool A.mi,.string D,.int .i64 A.p] 475)).alloc (.cells #[.bool B.mi,.string D',.int .i64 B.p] 475))):=by
  have x:=(HB3.out.alloc HB3.out.size (.cells #[.bool A.mi,.string D,.int .i64 A.p] 475))
  exact hid ⟨(Bk.new w3 #[.bool A.mi,.string D,.int .i64 A.p] 475).below (qR.alloc qL _),by simpa using Bk.new (w3.alloc (.cells #[.bool A.mi,.string D,.int .i64 A.p] 475)) #[.bool B.mi,.string D',.int .i64 B.p] 475,x.alloc x.size _⟩
 obtain ⟨P,hP⟩:∃P,w3.heap.size=P:=⟨_,rfl⟩
 rw [hP] at H0 ⊢
 generalize (w3.alloc (.cells #[.bool A.mi,.string D,.int .i64 A.p] 475)).alloc (.cells #[.bool B.mi,.string D',.int .i64 B.p] 475)=V at H0 ⊢
 clear HB3 hP h1 h2
 go_region_held3 (fun w'=>w'.cell? ⟨P,0,none⟩=some (.bool A.mi)∧w'.cell? ⟨P,1,none⟩=some (.string D)∧w'.cell? ⟨P,2,none⟩=some (.int .i64 A.p)∧w'.cell? ⟨P+1,0,none⟩=some (.bool B.mi)∧w'.cell? ⟨P+1,1,none⟩=some (.string D')∧w'.cell? ⟨P+1,2,none⟩=some (.int .i64 B.p)∧Hid (CmH w P A B D D' w')) (first|exact cm_held aM|exact cm_held (cm_drew aM)) (first|(go_at_call 399;(with_reducible show Calls prog 399 #[.agg #[.bool A.mi,.string D,.int .i64 A.p]] _ _);refine (hN1 _).mono ?_;rintro e w4 ⟨rfl,hb⟩;have H4:=(by first|exact cm_below aM hb|exact cm_below (cm_drew aM) hb);clear hb)|(go_at_call 399;(with_reducible show Calls prog 399 #[.agg #[.bool B.mi,.string D',.int .i64 B.p]] _ _);refine (hN2 _).mono ?_;rintro e w5 ⟨rfl,hb⟩;have H5:=(by first|exact cm_below aM hb|exact cm_below (cm_drew aM) hb);clear hb))
 all_goals
  have hbl:=hid H5.out.l
  by_cases c1:side A<side B
  ·have g1:decide (side A<side B)=true:=by rw [decide_eq_true_eq];exact c1
   have hv:z0=-1:=by rw [←hz0];unfold pcmp;rw [if_pos c1]
   go_wp2_with fail
   go_ret
   exact ⟨by first|rfl|(rw [hv];rfl),tq4⟩
  ·have g1:decide (side A<side B)=false:=by rw [decide_eq_false_iff_not];exact c1
   by_cases c2:side B<side A
   ·have g2:decide (side B<side A)=true:=by rw [decide_eq_true_eq];exact c2
    have hv:z0=1:=by rw [←hz0];unfold pcmp;rw [if_neg c1,if_pos c2]
    go_wp2_with fail
    go_ret
    exact ⟨by first|rfl|(rw [hv];rfl),tq4⟩
   ·have g2:decide (side B<side A)=false:=by rw [decide_eq_false_iff_not];exact c2
    have hv:pcmp A B=side A * psize A B:=by unfold pcmp;rw [if_neg c1,if_neg c2]
    have hS:=fun V=>nsize_any A.mi B.mi D D' A.p B.p HD.out HD'.out V
    rw [d1,d3] at hS
    have hwr:IntKind.i64.wrap (side A * psize A B)=z0:=by rw [wrap_sp,←hv,hz0]
    obtain ⟨x0,x1,x2,y0,y1,y2,-⟩ :=cm_held H5
    have hS:∀V,Calls prog 400 #[.agg #[.bool A.mi,.string D,.int .i64 A.p],.agg #[.bool B.mi,.string D',.int .i64 B.p]] V fun e w'=>e=.returned (.int .i64 (psize A B))∧Below V.heap.size V w':=hS
    generalize psize A B=z at hS hwr
    clear hv hz0 d1 d3 hN1 hN2
    go_wp2_with fail
    refine (hS _).mono ?_
    rintro e w6 ⟨rfl,hb6⟩
    have HB6:=bel_step (w:=w) tq4 hb6
    clear hb6 hbl
    go_wp2_with fail
    go_ret
    exact ⟨rfl,tq4⟩
end Nn
end Go.Proofs.YtjcioljdlfdnbaaGreatDoor
