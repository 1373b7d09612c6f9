/- Part 18: lemmas for TopNumber; no conditions. -/
import Derived.Test.YtjcioljdlfdnbaaGreatDoorH10
import Derived.Test.YtjcioljdlfdnbaaGreatDoorH17
set_option linter.unusedVariables false
set_option linter.unusedSimpArgs false
set_option maxRecDepth 100000
set_option maxHeartbeats 2000000
open Go.Proofs.Tryz
namespace Go.Proofs.YtjcioljdlfdnbaaGreatDoor
section
open Go.RowKit
theorem root_any(p:Nat)(w:World): Calls prog 86 #[.pointer (some ⟨p,0,none⟩)] w fun e w'=>e=.returned (.agg #[.pointer (some ⟨p,0,none⟩),.int .i64 (-1)])∧w'=w.alloc (.cells #[.pointer (some ⟨p,0,none⟩),.int .i64 (-1)] 128):=by
 go_enter func86,ntmps86
 go_wp2_with fail
 try simp only [Exit.inBlock,Exit.then]
 refine bodyPost_ret (v:=.agg #[.pointer (some ⟨p,0,none⟩),.int .i64 (-1)]) (by simp [results,results86,go_sem, *]) rfl ⟨rfl,rfl⟩
def KidP (w:World) (p:Nat) (e:Ending) (w':World):Prop:=∃W,e=.returned (.slice (some ⟨W.heap.size,0,none⟩) 1 1)∧w'=W.alloc (.cells #[.pointer (some ⟨p,0,none⟩),.int .i64 1] 128)∧Below w.heap.size w W
theorem info139: (prog.info? 128).map (fun i=>(i.zero,i.size,i.bytes))=some (some (.agg #[.pointer none,.int .i64 0]),2,16):=by kernel_rfl
end
namespace Nn
open Go.RowKit
open Np
def sgs:List ByteArray:=[⟨#[46,46]⟩,⟨#[38,38]⟩,⟨#[124,124]⟩,⟨#[61,61]⟩,⟨#[33,61]⟩,⟨#[60,61]⟩,⟨#[62,61]⟩,⟨#[36]⟩,⟨#[64]⟩,⟨#[46]⟩,⟨#[91]⟩,⟨#[93]⟩,⟨#[40]⟩,⟨#[41]⟩,⟨#[42]⟩,⟨#[44]⟩,⟨#[58]⟩,⟨#[63]⟩,⟨#[33]⟩,⟨#[60]⟩,⟨#[62]⟩]
structure SgL (g:Nat) (W:World):Prop where
 lt:g<W.heap.size
 c:∀k x,sgs[k]?=some x→W.cell? ⟨g,k,none⟩=some (.string x)
theorem SgL.below{g:Nat}{W W':World}(h:SgL g W)(hb:Below W.heap.size W W'): SgL g W':=⟨Nat.lt_of_lt_of_le h.lt hb.size,fun k x hx=>(hb.cell (p:=⟨g,k,none⟩) h.lt).trans (h.c k x hx)⟩
theorem signs_any(w:World): Calls prog 213 #[] w fun e w'=>∃g,e=.returned (.slice (some ⟨g,0,none⟩) 21 21)∧SgL g w'∧Below w.heap.size w w':=by
 go_enter func213,ntmps213
 go_wp2_with fail
 go_ret
 refine ⟨w.heap.size,rfl,⟨by simp,?_⟩,qR.alloc qL _⟩
 intro k x hx
 have:k<21:=by
  obtain ⟨h,-⟩ :=List.getElem?_eq_some_iff.1 hx
  exact h
 obtain rfl|rfl|rfl|rfl|rfl|rfl|rfl|rfl|rfl|rfl|rfl|rfl|rfl|rfl|rfl|rfl|rfl|rfl|rfl|rfl|rfl:k=0∨k=1∨k=2∨k=3∨k=4∨k=5∨k=6∨k=7∨k=8∨k=9∨k=10∨k=11∨k=12∨k=13∨k=14∨k=15∨k=16∨k=17∨k=18∨k=19∨k=20:=oM
 all_goals (simp [sgs] at hx;subst hx;simp [go_sem])
def Sy (c:UInt8):Prop:=c.toNat<128∧¬Dg c∧¬(97≤c.toNat∧c.toNat≤122)∧¬(65≤c.toNat∧c.toNat≤90)∧c.toNat≠95∧c.toNat≠34∧c.toNat≠39∧c.toNat≠45
theorem U_0'(c:UInt8)(l:List UInt8)(h:c.toNat<128): Go.Proofs.Lw.uscal (c::l)=((c.toNat:Int),1):=Go.Proofs.Lw.U_0 c l oM
theorem letter_no(s:ByteArray)(hs:s.size≤100000)(c:UInt8)(l:List UInt8)(hl:s.data.toList=c::l)(hc:Sy c∨Dg c)(w:World): Calls prog 277 #[.string s] w fun e w'=>e=.returned (.int .i64 0)∧w=w':=by
 have hc1:c.toNat<128:=by rcases hc with h|h;exact h.1;exact Nat.lt_of_le_of_lt h.2 oM
 have hS:=fun W=>Tx.scalar_any s W (by unfold maxLen;omega)
 rw [hl,U_0' c l hc1] at hS
 have:¬(97≤c.toNat∧c.toNat≤122):=by rcases hc with h|h;exact h.2.2.1;exact fun k=>by have:=h.2;omega
 have:¬(65≤c.toNat∧c.toNat≤90):=by rcases hc with h|h;exact h.2.2.2.1;exact fun k=>by have:=h.2;omega
 have d3:¬(c.toNat=95):=by rcases hc with h|h;exact h.2.2.2.2.1;exact fun k=>by have:=h.2;omega
 obtain ⟨v,hv⟩:∃v:Int,((c.toNat:Nat):Int)=v:=⟨_,rfl⟩
 simp only [hv] at hS
 have:v<128:=oM
 have:decide (128≤v)=false:=by rw [decide_eq_false_iff_not];omega
 have:(v==95)=false:=by rw [beq_eq_false_iff_ne];omega
 clear hl hc d3
 go_enter func277,ntmps277
 by_cases a1:97≤v
 ·have a2:decide (97≤v)=true:=decide_eq_true a1
  have:decide (v≤122)=false:=by rw [decide_eq_false_iff_not];omega
  have b2:decide (65≤v)=true:=by rw [decide_eq_true_eq];omega
  have b3:decide (v≤90)=false:=by rw [decide_eq_false_iff_not];omega
  go_wp2_with (first|(go_at_call 274;refine (hS _).mono ?_;rintro e w1 ⟨rfl,rfl⟩))
  go_ret
  exact ⟨rfl,rfl⟩
 ·have a2:decide (97≤v)=false:=decide_eq_false a1
  by_cases b1:65≤v
  ·have b2:decide (65≤v)=true:=decide_eq_true b1
   have b3:decide (v≤90)=false:=by rw [decide_eq_false_iff_not];omega
   go_wp2_with (first|(go_at_call 274;refine (hS _).mono ?_;rintro e w1 ⟨rfl,rfl⟩))
   go_ret
   exact ⟨rfl,rfl⟩
  ·have b2:decide (65≤v)=false:=decide_eq_false b1
   go_wp2_with (first|(go_at_call 274;refine (hS _).mono ?_;rintro e w1 ⟨rfl,rfl⟩))
   go_ret
   exact ⟨rfl,rfl⟩
theorem name_no(s:ByteArray)(hs:s.size≤100000)(c:UInt8)(l:List UInt8)(hl:s.data.toList=c::l)(hc:Sy c∨Dg c)(w:World): Calls prog 212 #[.string s] w fun e w'=>e=.returned (.int .i64 0)∧w=w':=by
 have hL:=letter_no s hs c l hl hc
 clear hl
 go_enter func212,ntmps212
 go_wp2_with (first|(go_at_call 277;refine (hL _).mono ?_;rintro e w1 ⟨rfl,rfl⟩)|(refine wp_loop_unr 2 ?_;refine Unr.step ?_;intro U hU))
 go_ret
 exact ⟨rfl,rfl⟩
theorem qdigit_any(b:UInt8)(w:World): Calls prog 210 #[.int .u8 (b.toNat:Nat)] w fun e w'=>e=.returned (.bool (decide (Dg b)))∧w=w':=by
 by_cases h1:48≤b.toNat
 ·have d1:decide (48≤((b.toNat:Nat):Int))=true:=by rw [decide_eq_true_eq];omega
  by_cases h2:b.toNat≤57
  ·have d2:decide (((b.toNat:Nat):Int)≤57)=true:=by rw [decide_eq_true_eq];omega
   rw [show decide (Dg b)=true by rw [decide_eq_true_eq];exact ⟨h1,h2⟩]
   go_enter func210,ntmps210
   go_wp2_with fail
   go_ret
   exact ⟨rfl,rfl⟩
  ·have d2:decide (((b.toNat:Nat):Int)≤57)=false:=by rw [decide_eq_false_iff_not];omega
   rw [show decide (Dg b)=false by rw [decide_eq_false_iff_not];exact fun h=>h2 h.2]
   go_enter func210,ntmps210
   go_wp2_with fail
   go_ret
   exact ⟨rfl,rfl⟩
 ·have d1:decide (48≤((b.toNat:Nat):Int))=false:=by rw [decide_eq_false_iff_not];omega
  rw [show decide (Dg b)=false by rw [decide_eq_false_iff_not];exact fun h=>h1 h.1]
  go_enter func210,ntmps210
  go_wp2_with fail
  go_ret
  exact ⟨rfl,rfl⟩
theorem qdigit_yes(b:UInt8)(h:Dg b)(w:World): Calls prog 210 #[.int .u8 (b.toNat:Nat)] w fun e w'=>e=.returned (.bool true)∧w=w':=by
 have:=qdigit_any b w
 rwa [show decide (Dg b)=true from decide_eq_true h] at this
theorem qdigit_no(b:UInt8)(h:¬Dg b)(w:World): Calls prog 210 #[.int .u8 (b.toNat:Nat)] w fun e w'=>e=.returned (.bool false)∧w=w':=by
 have:=qdigit_any b w
 rwa [show decide (Dg b)=false from decide_eq_false h] at this
theorem one_sign(s:ByteArray)(hs:s.size≤100000)(c:UInt8)(l:List UInt8)(hl:s.data.toList=c::l)(hc:Sy c)(i:Nat)(x:ByteArray)(hx:sgs[i]?=some x)(hp1:Lib.hasPrefix s.data.toList x.data.toList=true)(hp0:∀j y,j<i→sgs[j]?=some y→Lib.hasPrefix s.data.toList y.data.toList=false)(w:World): Calls prog 149 #[.string s] w fun e w'=>e=.returned (.tuple #[.agg #[.int .i64 1,.string x,.int .i64 0,.int .i64 0,.bool false],.int .i64 (x.size:Nat),.int .i64 0])∧Below w.heap.size w w':=by
 have hi:i<21:=by
  obtain ⟨h,-⟩ :=List.getElem?_eq_some_iff.1 hx
  exact h
 have hN:=name_no s hs c l hl (.inl hc)
 have hz:0<s.size:=by rw [Lib.size_eq,hl];simp
 have h0:s[0]'hz=c:=by
  have:s.data.toList[0]?=some c:=by rw [hl];rfl
  obtain ⟨_,h⟩ :=List.getElem?_eq_some_iff.1 this
  exact h
 have hX:=idx_run s 0 hz 0 rfl
 rw [h0] at hX
 have hD:=qdigit_no c hc.2.1
 obtain ⟨c1,-,-,-,-,c6,c7,c8⟩ :=hc
 obtain ⟨v,hv⟩:∃v:Int,((c.toNat:Nat):Int)=v:=⟨_,rfl⟩
 simp only [hv] at hX hD
 have e1:(v==34)=false:=by rw [beq_eq_false_iff_ne];omega
 have e2:(v==39)=false:=by rw [beq_eq_false_iff_ne];omega
 have e3:(v==45)=false:=by rw [beq_eq_false_iff_ne];omega
 have HP1:=hid hp1
 have HP0:=hid hp0
 clear hl h0 hp1 hp0 c1 c6 c7 c8 hv
 go_enter func149,ntmps149
 go_wp2_with (first|(go_at_call 210;refine (hD _).mono ?_;rintro e w1 ⟨rfl,rfl⟩)|(go_at_call 212;refine (hN _).mono ?_;rintro e w1 ⟨rfl,rfl⟩)|(go_at_call 213;refine (signs_any _).mono ?_;rintro e w1 ⟨g,rfl,hg,hb⟩))
 have hB:Hid (Below w.heap.size w w1):=hid ((qR.alloc qL _).trans (hb.mono sM))
 have bl:w.heap.size<w1.heap.size:=by have:=hb.size;simp at this;omega
 have r0:=hb.cell (p:=⟨w.heap.size,0,none⟩) sM;simp [go_sem] at r0
 have r1:=hb.cell (p:=⟨w.heap.size,1,none⟩) sM;simp [go_sem] at r1
 have r2:=hb.cell (p:=⟨w.heap.size,2,none⟩) sM;simp [go_sem] at r2
 have r3:=hb.cell (p:=⟨w.heap.size,3,none⟩) sM;simp [go_sem] at r3
 have r4:=hb.cell (p:=⟨w.heap.size,4,none⟩) sM;simp [go_sem] at r4
 have f0:=hb.frozen (p:=⟨w.heap.size,0,none⟩) sM;simp [go_sem] at f0
 have f1:=hb.frozen (p:=⟨w.heap.size,1,none⟩) sM;simp [go_sem] at f1
 have f2:=hb.frozen (p:=⟨w.heap.size,2,none⟩) sM;simp [go_sem] at f2
 have f3:=hb.frozen (p:=⟨w.heap.size,3,none⟩) sM;simp [go_sem] at f3
 have f4:=hb.frozen (p:=⟨w.heap.size,4,none⟩) sM;simp [go_sem] at f4
 clear hb hX hD hN
 obtain ⟨B,hBe⟩:∃B,w.heap.size=B:=⟨_,rfl⟩
 have HBe:=hid hBe
 simp only [hBe] at hB bl r0 r1 r2 r3 r4 f0 f1 f2 f3 f4 ⊢
 clear hBe
 go_loopg [62] 21 (fun q v wr=>(∃j:Nat,v=.int .i64 (j:Nat)∧j≤i∧q=21-j)∧wr=w1)
 case atStart=>exact ⟨⟨0,rfl,by omega,rfl⟩,rfl⟩
 case round=>
  obtain ⟨⟨j,rfl,hj,rfl⟩,rfl⟩ :=hrel
  have d1:decide ((j:Int)<21)=true:=by rw [decide_eq_true_eq];omega
  have hgl:=hg.lt
  by_cases hlt:j<i
  ·obtain ⟨y,hy⟩:∃y,sgs[j]?=some y:=⟨_,List.getElem?_eq_getElem (by show j<21;omega)⟩
   have cj:=hg.c j y hy
   have hP:=HP0.out j y hlt hy
   go_wp2_with (first|(go_at_call 214;refine (hp _ _ false hP _).mono ?_;rintro e w2 ⟨rfl,rfl⟩))
   go_roundg (21-(j+1))
   case measure=>go_light;omega
   case rel=>go_light;exact ⟨⟨j+1,by go_num,by omega,rfl⟩,rfl⟩
  ·obtain rfl:j=i:=oM
   have cj:=hg.c j x hx
   go_wp2_with (first|(go_at_call 214;refine (hp _ _ true HP1.out _).mono ?_;rintro e w2 ⟨rfl,rfl⟩))
   try simp only [Exit.inBlock,Exit.then]
   refine bodyPost_ret (v:=.tuple #[.agg #[.int .i64 1,.string x,.int .i64 0,.int .i64 0,.bool false],.int .i64 (x.size:Nat),.int .i64 0]) (by simp [results,results149,go_sem, *]) rfl ⟨rfl,?_⟩
   have hB2:=hB.out
   rw [HBe.out]
   repeat' (first|exact hB2|refine Below.setCell ?_ sM _)
def flat:List Tok→List Value
 | []=>[]
 | t::ts=>.int .i64 t.K::.string t.S::.int .i64 t.N::.int .i64 t.A::.bool false::flat ts
theorem flat_snoc(ts:List Tok)(t:Tok): flat (ts++[t])=flat ts++[.int .i64 t.K,.string t.S,.int .i64 t.N,.int .i64 t.A,.bool false]:=by
 induction ts with
 | nil=>rfl
 | cons u ts ih=>simp [flat,ih]
theorem TL.ofFlat{W:World}{g:Nat}: ∀(ts:List Tok) (j:Nat),(∀i u,(flat ts)[i]?=some u→W.cell? ⟨g,j+i,none⟩=some u)→TL W g j ts
 | [],_,_=>trivial
 | t::ts,j,h=>⟨h 0 _ rfl,h 1 _ rfl,h 2 _ rfl,h 3 _ rfl,h 4 _ rfl,TL.ofFlat ts (j+5) fun i u hu=>by have:=h (i+5) u (by simpa [flat] using hu);rwa [show j+(i+5)=j+5+i by omega] at this⟩
inductive LexAt (s:ByteArray):Nat→List Tok→Prop
 | nil (k:Nat) (h:k=s.size):LexAt s k []
 | cons (k n:Nat) (t:Tok) (ts:List Tok) (hn:0<n) (hk:k+n≤s.size) (hb:Lib.trimLeftS (s.extract k s.size).data.toList blk.data.toList=(s.extract k s.size).data.toList) (hA:t.A=(k:Nat))
  (h1:∀W,Calls prog 149 #[.string (s.extract k s.size)] W fun e w'=>e=.returned (.tuple #[.agg #[.int .i64 t.K,.string t.S,.int .i64 t.N,.int .i64 0,.bool false],.int .i64 (n:Nat),.int .i64 0])∧Below W.heap.size W w')
  (ht:LexAt s (k+n) ts):LexAt s k (t::ts)
theorem trimLeft_l(s:ByteArray)(w:World)(h:Lib.trimLeftS s.data.toList blk.data.toList=s.data.toList): Calls prog 90 #[.string s,.string blk] w fun e w'=>e=.returned (.string s)∧Below w.heap.size w w':=by
 have:=Any.strings_TrimLeft_laid Tryz.lays161 h116 s blk w (by decide) blk_ascii
 rw [h,toList_back] at this
 exact this
theorem info262: (prog.info? 262).map (fun i=>(i.zero,i.size,i.bytes))=some (some (.agg #[.int .i64 0,.string ⟨#[]⟩,.int .i64 0,.int .i64 0,.bool false]),5,48):=by kernel_rfl
theorem lex_t(s:ByteArray)(hs:s.size≤4096)(ts:List Tok)(hl:LexAt s 0 ts)(hne:ts≠[])(hn:ts.length≤900)(w:World): Calls prog 79 #[.string s] w fun e w'=>∃g cap,e=.returned (.tuple #[.slice (some ⟨g,0,none⟩) ts.length cap,.agg #[.int .i64 0,.int .i64 0]])∧ts.length≤cap∧w.heap.size≤g∧g<w'.heap.size∧TL w' g 0 ts∧Below w.heap.size w w':=by
 obtain ⟨i0,hi0,hz0,hs0,hb0⟩ :=info_parts info262
 have d0:decide (4096<(s.size:Int))=false:=by rw [decide_eq_false_iff_not];omega
 have HL:=hid hl
 have HNE:=hid hne
 clear hl hne
 go_enter func79,ntmps79
 go_wp2_with fail
 have HA:=hid (Acc.nil (Below.refl _ (w.alloc (.cells #[.int .i64 0,.int .i64 0] 47))) 262 5)
 obtain ⟨w1,hw1⟩:∃w1,(w.alloc (.cells #[.int .i64 0,.int .i64 0] 47))=w1:=⟨_,rfl⟩
 have b0:w1.cell? ⟨w.heap.size,0,none⟩=some (.int .i64 0):=by rw [←hw1];simp [go_sem]
 have b1:w1.cell? ⟨w.heap.size,1,none⟩=some (.int .i64 0):=by rw [←hw1];simp [go_sem]
 have z0:w1.frozen? ⟨w.heap.size,0,none⟩=false:=by rw [←hw1];simp [go_sem]
 have z1:w1.frozen? ⟨w.heap.size,1,none⟩=false:=by rw [←hw1];simp [go_sem]
 have bl:w.heap.size<w1.heap.size:=by rw [←hw1];simp
 have HB1:Hid (Below w.heap.size w w1):=by rw [←hw1];exact hid (qR.alloc qL _)
 rw [hw1] at HA ⊢
 clear hw1
 go_loopg [4,5] ts.length (fun q u v wr=>∃(dn rs:List Tok) (k:Nat),ts=dn++rs∧v=.int .i64 (k:Nat)∧k≤s.size∧q=rs.length∧Hid (LexAt s k rs)∧Hid (Acc w1 wr 262 5 u dn.length (flat dn)))
 case atStart=>exact ⟨[],ts,0,rfl,rfl,Nat.zero_le _,rfl,HL,HA⟩
 case round=>
  obtain ⟨dn,rs,k,hts,rfl,hk,rfl,HLk,HAk⟩ :=hrel
  cases rs with
  | nil=>
   have hke:k=s.size:=by cases HLk.out with|nil _ h=>exact h
   subst hke
   have hts':ts=dn:=by rw [hts];simp
   subst hts'
   have d1:decide (s.size<s.size)=false:=by simp
   obtain ⟨u,hlen⟩:∃u,ts.length=u+1:=⟨ts.length-1,by cases ts with|nil=>exact absurd rfl HNE.out|cons _ _=>simp⟩
   obtain ⟨g,cap,rfl⟩:∃g cap,u4=.slice (some ⟨g,0,none⟩) (u+1) cap:=by
    rcases HAk.out.own.2 with ⟨hv,h0⟩|⟨g',cap',cur,hv,hx⟩
    ·omega
    ·exact ⟨g',cap',by rw [hv,hlen]⟩
   have hAk:=HAk.out
   rw [hlen] at hAk
   have hcap:=hAk.cap
   have hrow:=hAk.row
   have hb:=hAk.bel
   have r0:=(hb.cell (p:=⟨w.heap.size,0,none⟩) bl).trans b0
   have r1:=(hb.cell (p:=⟨w.heap.size,1,none⟩) bl).trans b1
   have y0:=(hb.frozen (p:=⟨w.heap.size,0,none⟩) bl).trans z0
   have y1:=(hb.frozen (p:=⟨w.heap.size,1,none⟩) bl).trans z1
   have HRow:=hid hrow
   have HBk:=hid hb
   have hne0:((u:Int)+1==0)=false:=by rw [beq_eq_false_iff_ne];omega
   clear hrow hAk HAk b0 b1 z0 z1 hb HLk
   go_wp2_with fail
   try simp only [Exit.inBlock,Exit.then]
   refine bodyPost_ret (v:=.tuple #[.slice (some ⟨g,0,none⟩) (u+1) cap,.agg #[.int .i64 0,.int .i64 0]]) (by simp [results,results79,go_sem, *]) rfl ⟨g,cap,by rw [hlen],by omega,?_,?_,?_,?_⟩
   ·have:=HRow.out.1;omega
   ·simpa [World.setCell] using HRow.out.2.1
   ·refine TL.of (W:=wr) (fun c=>?_) (TL.ofFlat ts 0 fun i x hx=>by rw [Nat.zero_add];exact HRow.out.2.2 i x hx)
    have:=HRow.out.1
    exact ((qO (by intro e;injection e with e;omega)).trans (qO (by intro e;injection e with e;omega)))
   ·exact (((HB1.out.trans (HBk.out.mono oM)).setCell sM _).setCell sM _)
  | cons t rs=>
   obtain ⟨n,hn0,hkn,hbl,hA,h1,HLn⟩:∃n,0<n∧k+n≤s.size∧Hid (Lib.trimLeftS (s.extract k s.size).data.toList blk.data.toList=(s.extract k s.size).data.toList)∧t.A=(k:Nat)∧(∀W,Calls prog 149 #[.string (s.extract k s.size)] W fun e w'=>e=.returned (.tuple #[.agg #[.int .i64 t.K,.string t.S,.int .i64 t.N,.int .i64 0,.bool false],.int .i64 (n:Nat),.int .i64 0])∧Below W.heap.size W w')∧Hid (LexAt s (k+n) rs):=by
    cases HLk.out with
    | cons _ n _ _ hn hk hb hA h1 ht=>exact ⟨n,hn,hk,hid hb,hA,h1,hid ht⟩
   have hT:=fun W=>trimLeft_l (s.extract k s.size) W hbl.out
   have hRs:(s.extract k s.size).size=s.size-k:=by simp
   have d1:decide (k<s.size)=true:=by rw [decide_eq_true_eq];omega
   clear HLk hbl
   go_wp2_with fail
   obtain ⟨R,hR⟩:∃R,s.extract k s.size=R:=⟨_,rfl⟩
   simp only [hR] at hT hRs h1 ⊢
   clear hR
   refine (hT _).mono ?_;rintro e w2 ⟨rfl,hb⟩
   have HA2:=hid (HAk.out.below hb)
   clear HAk hb hT
   have q1:IntKind.i64.wrap ((s.size:Int)-(R.size:Int))=(k:Int):=by rw [IntWalk.i64_in _ (by omega)];omega
   have q3:IntKind.i64.wrap (k:Int)=(k:Int):=IntWalk.i64_in _ oM
   have q4:IntKind.i64.wrap ((k:Int)+(n:Int))=(k:Int)+(n:Int):=IntWalk.i64_in _ oM
   have hdn:dn.length<900:=by rw [hts] at hn;simp at hn;omega
   go_wp2_with fail
   refine (h1 _).mono ?_;rintro e w3 ⟨rfl,hb⟩
   have HA3:=hid (HA2.out.below hb)
   clear HA2 hb h1
   go_wp2_with (first|(at_builtin;refine wpList_push rfl _ _ 168 rfl 262 i0 _ 5 48 underlying168 hi0 hz0 hs0 hb0 rfl oM (Acc.below HA3.out tq4) rfl rfl sM rfl rfl oM oM ?_;intro g cap w4 hA4;have HA4:=hid hA4;clear hA4))
   go_roundg rs.length
   case measure=>go_light;simp
   case rel=>
    go_light
    refine ⟨dn++[t],rs,k+n,by rw [hts];simp,by go_num,hkn,rfl,HLn,?_⟩
    rw [flat_snoc,List.length_append]
    have:=HA4
    rw [show (k:Int)+((s.size:Int)-((s.size-k:Nat):Int)-(k:Int))=(k:Int) by omega,show decide ((k:Int)<(s.size:Int)-((s.size-k:Nat):Int))=false by rw [decide_eq_false_iff_not];omega] at this
    simp only [hA]
    exact this
theorem val_take(l:List UInt8)(k:Nat)(h:k<l.length): val (l.take (k+1))=val (l.take k) * 10+dv l[k]:=by
 rw [List.take_succ_eq_append_getElem h];unfold val;rw [List.foldl_append];rfl
theorem val_le_from(l:List UInt8): ∀n,n≤l.foldl (fun n b=>n * 10+dv b) n:=by
 induction l with
 | nil=>intro n;exact qL
 | cons b l ih=>intro n;exact Nat.le_trans oM (ih (n * 10+dv b))
theorem val_mono(l:List UInt8)(k:Nat): val (l.take k)≤val l:=by
 conv=>rhs;rw [←List.take_append_drop k l]
 unfold val;rw [List.foldl_append]
 exact val_le_from _ _
theorem numOf_pos(s:ByteArray)(hs:s.size≤4096)(ds r:List UInt8)(hl:s.data.toList=ds++r)(hd:∀b∈ds,Dg b)(h1:1≤ds.length)(hz:ds.length=1∨ds.head?≠some 48)(hr:∀b,r.head?=some b→¬Dg b)(hv:val ds≤9007199254740991)(w:World): Calls prog 211 #[.string s] w fun e w'=>e=.returned (.tuple #[.int .i64 (val ds:Nat),.int .i64 (ds.length:Nat),.int .i64 0])∧Below w.heap.size w w':=by
 have hm:Lib.hasPrefix s.data.toList [45]=false:=by
  rw [hl]
  cases ds with
  | nil=>simp at h1
  | cons b ds=>
   have:=hd b sM
   have hb:b≠45:=by rintro rfl;have:=this.1;simp at this
   show ([45]:List UInt8).isPrefixOf (b::(ds++r))=false
   simp only [List.isPrefixOf]
   rw [show ((45:UInt8)==b)=false by rw [beq_eq_false_iff_ne];exact hb.symm];rfl
 have hH:=fun W=>hp s ⟨#[45]⟩ false hm W
 have hsz:ds.length≤s.size:=by rw [Lib.size_eq,hl];simp
 obtain ⟨D,hD⟩:∃D,ds.length=D:=⟨_,rfl⟩
 have hat:∀j (hj:j<D),∃hk:j<s.size,(s[j]'hk)=ds[j]∧Dg (s[j]'hk):=fun j hj=>by
  have h1:s.data.toList[j]?=some ds[j]:=by rw [hl,List.getElem?_append_left (by omega)];exact List.getElem?_eq_getElem _
  obtain ⟨h2,h3⟩ :=List.getElem?_eq_some_iff.1 h1
  refine ⟨by rw [Lib.size_eq];exact h2,h3,?_⟩
  rw [show s[j]'_=ds[j] from h3]
  exact hd _ (List.getElem_mem _)
 have hend:∀(hk:D<s.size),¬Dg (s[D]'hk):=fun hk=>by
  have h1:s.data.toList[D]?=r[0]?:=by rw [hl,List.getElem?_append_right (by omega)];simp [hD]
  have h2:s.data.toList[D]?=some (s[D]'hk):=List.getElem?_eq_some_iff.2 ⟨by rw [←Lib.size_eq];exact hk,rfl⟩
  rw [h2] at h1
  exact hr _ (by rw [List.head?_eq_getElem?];exact h1.symm)
 have HV:Hid (∀j,val (ds.take j)≤9007199254740991):=hid (fun j=>Nat.le_trans (val_mono ds j) hv)
 have HAT:=hid hat
 have HEND:=hid hend
 have HZ:=hid hz
 clear hat hend hz hv hr hl hd hm
 go_enter func211,ntmps211
 go_wp2_with (first|(go_at_call 214;refine (hH _).mono ?_;rintro e w1 ⟨rfl,rfl⟩))
 go_loopg [6,8,9] D (fun q u v x wr=>(∃j:Nat,u=.int .i64 (j:Nat)∧v=.int .i64 (val (ds.take j):Nat)∧x=.int .i64 0∧j≤D∧q=D-j)∧wr=w)
 case atStart=>exact ⟨⟨0,rfl,rfl,rfl,Nat.zero_le _,rfl⟩,rfl⟩
 case round=>
  obtain ⟨⟨j,rfl,rfl,rfl,hj,rfl⟩,rfl⟩ :=hrel
  by_cases hlt:j<D
  ·obtain ⟨hk,hb,hdg⟩ :=HAT.out j hlt
   have d1:decide ((j:Int)<(s.size:Int))=true:=by rw [decide_eq_true_eq];omega
   have hX:=idx_run s j hk (j:Int) rfl
   have hDy:=qdigit_yes _ hdg
   have hV1:=HV.out (j+1)
   have hV:=HV.out j
   have hvt:=val_take ds j oM
   rw [hvt] at hV1
   rw [←hb] at hV1 hvt
   obtain ⟨b,hbe⟩:∃b,(s[j]'hk).toNat=b:=⟨_,rfl⟩
   unfold dv at hV1 hvt
   have g1:=hdg.1
   have g2:=hdg.2
   rw [hbe] at hX hDy hV1 hvt g1 g2
   obtain ⟨V,hVe⟩:∃V,val (ds.take j)=V:=⟨_,rfl⟩
   rw [hVe] at hV hV1 hvt
   simp only [hVe]
   have w1:IntKind.u8.wrap ((b:Int)-48)=(b:Int)-48:=IntWalk.u8_in _ oM
   have w2:IntKind.i64.wrap ((b:Int)-48)=(b:Int)-48:=IntWalk.i64_in _ oM
   have w3:IntKind.i64.wrap ((V:Int) * 10)=(V:Int) * 10:=IntWalk.i64_in _ oM
   have w4:IntKind.i64.wrap ((V:Int) * 10+((b:Int)-48))=(V:Int) * 10+((b:Int)-48):=IntWalk.i64_in _ oM
   have d2:decide (9007199254740991<(V:Int) * 10+((b:Int)-48))=false:=by rw [decide_eq_false_iff_not];omega
   have HVT:=hid hvt
   clear hb hdg hV1 hV hvt hbe hVe
   go_wp2_with (first|(go_at_call 210;refine (hDy _).mono ?_;rintro e w1 ⟨rfl,rfl⟩))
   go_roundg (D-(j+1))
   case measure=>go_light;omega
   case rel=>go_light;exact ⟨⟨j+1,by go_num,by rw [HVT.out];congr 1;omega,rfl,by omega,rfl⟩,rfl⟩
  ·obtain rfl:j=D:=oM
   have ht:ds.take j=ds:=List.take_of_length_le oM
   simp only [ht]
   obtain ⟨hz,hb0,-⟩ :=HAT.out 0 oM
   have hX0:=idx_run s 0 hz 0 rfl
   have h480:(s[0]'hz).toNat=48→j=1:=fun h=>by
    rcases HZ.out with h1|h1
    ·omega
    ·exfalso;apply h1
     rw [List.head?_eq_getElem?,List.getElem?_eq_getElem (by omega),←hb0]
     congr 1
     exact UInt8.toNat_inj.1 h
   obtain ⟨b,hbe⟩:∃b,(s[0]'hz).toNat=b:=⟨_,rfl⟩
   rw [hbe] at hX0 h480
   have e1:((j:Int)==0)=false:=by rw [beq_eq_false_iff_ne];omega
   clear HAT HZ HV hb0 hbe ht
   have e0:ds.length=j:=oM
   try simp only [e0]
   by_cases h48:b=48
   ·have hj1:=h480 h48
    have e2:((b:Int)==48)=true:=by rw [h48];rfl
    have d3:decide (1<(j:Int))=false:=by rw [decide_eq_false_iff_not];omega
    clear hj1 h480 h48
    by_cases hse:j<s.size
    ·have d1:decide ((j:Int)<(s.size:Int))=true:=by rw [decide_eq_true_eq];omega
     have hX:=idx_run s j hse (j:Int) rfl
     have hDn:=qdigit_no _ (HEND.out hse)
     go_wp2_with (first|(go_at_call 210;refine (hDn _).mono ?_;rintro e w1 ⟨rfl,rfl⟩))
     try simp only [Exit.inBlock,Exit.then]
     refine bodyPost_ret (v:=.tuple #[.int .i64 (val ds:Nat),.int .i64 (j:Nat),.int .i64 0]) (by simp [results,results211,go_sem]) rfl ⟨by rw [e0],qR⟩
    ·have d1:decide ((j:Int)<(s.size:Int))=false:=by rw [decide_eq_false_iff_not];omega
     go_wp2_with fail
     try simp only [Exit.inBlock,Exit.then]
     refine bodyPost_ret (v:=.tuple #[.int .i64 (val ds:Nat),.int .i64 (j:Nat),.int .i64 0]) (by simp [results,results211,go_sem]) rfl ⟨by rw [e0],qR⟩
   ·
    have e2:((b:Int)==48)=false:=by rw [beq_eq_false_iff_ne];omega
    by_cases hse:j<s.size
    ·have d1:decide ((j:Int)<(s.size:Int))=true:=by rw [decide_eq_true_eq];omega
     have hX:=idx_run s j hse (j:Int) rfl
     have hDn:=qdigit_no _ (HEND.out hse)
     go_wp2_with (first|(go_at_call 210;refine (hDn _).mono ?_;rintro e w1 ⟨rfl,rfl⟩))
     try simp only [Exit.inBlock,Exit.then]
     refine bodyPost_ret (v:=.tuple #[.int .i64 (val ds:Nat),.int .i64 (j:Nat),.int .i64 0]) (by simp [results,results211,go_sem]) rfl ⟨by rw [e0],qR⟩
    ·have d1:decide ((j:Int)<(s.size:Int))=false:=by rw [decide_eq_false_iff_not];omega
     go_wp2_with fail
     try simp only [Exit.inBlock,Exit.then]
     refine bodyPost_ret (v:=.tuple #[.int .i64 (val ds:Nat),.int .i64 (j:Nat),.int .i64 0]) (by simp [results,results211,go_sem]) rfl ⟨by rw [e0],qR⟩
theorem numOf_neg(s:ByteArray)(hs:s.size≤4096)(ds r:List UInt8)(hl:s.data.toList=45::(ds++r))(hd:∀b∈ds,Dg b)(h1:1≤ds.length)(hz:ds.head?≠some 48)(hr:∀b,r.head?=some b→¬Dg b)(hv:val ds≤9007199254740991)(w:World): Calls prog 211 #[.string s] w fun e w'=>e=.returned (.tuple #[.int .i64 (-((val ds:Nat):Int)),.int .i64 (1+(ds.length:Nat):Int),.int .i64 0])∧Below w.heap.size w w':=by
 have hm:Lib.hasPrefix s.data.toList [45]=true:=by rw [hl];rfl
 have hH:=fun W=>hp s ⟨#[45]⟩ true hm W
 have:1+ds.length≤s.size:=by rw [Lib.size_eq,hl];simp;omega
 obtain ⟨D,hD⟩:∃D,ds.length=D:=⟨_,rfl⟩
 have hat:∀j (hj:j<D),∃hk:1+j<s.size,(s[1+j]'hk)=ds[j]∧Dg (s[1+j]'hk):=fun j hj=>by
  have h1:s.data.toList[1+j]?=some ds[j]:=by rw [hl,Nat.add_comm,List.getElem?_cons_succ,List.getElem?_append_left (by omega)];exact List.getElem?_eq_getElem _
  obtain ⟨h2,h3⟩ :=List.getElem?_eq_some_iff.1 h1
  refine ⟨by rw [Lib.size_eq];exact h2,h3,?_⟩
  rw [show s[1+j]'_=ds[j] from h3]
  exact hd _ (List.getElem_mem _)
 have hend:∀(hk:1+D<s.size),¬Dg (s[1+D]'hk):=fun hk=>by
  have h1:s.data.toList[1+D]?=r[0]?:=by rw [hl,Nat.add_comm,List.getElem?_cons_succ,List.getElem?_append_right (by omega)];simp [hD]
  have h2:s.data.toList[1+D]?=some (s[1+D]'hk):=List.getElem?_eq_some_iff.2 ⟨by rw [←Lib.size_eq];exact hk,rfl⟩
  rw [h2] at h1
  exact hr _ (by rw [List.head?_eq_getElem?];exact h1.symm)
 have HV:Hid (∀j,val (ds.take j)≤9007199254740991):=hid (fun j=>Nat.le_trans (val_mono ds j) hv)
 have HAT:=hid hat
 have HEND:=hid hend
 have HZ:=hid hz
 have hvd:=HV.out D
 clear hat hend hz hr hl hd hm
 go_enter func211,ntmps211
 go_wp2_with (first|(go_at_call 214;refine (hH _).mono ?_;rintro e w1 ⟨rfl,rfl⟩))
 go_loopg [6,8,9] D (fun q u v x wr=>(∃j:Nat,u=.int .i64 (1+(j:Int))∧v=.int .i64 (val (ds.take j):Nat)∧x=.int .i64 0∧j≤D∧q=D-j)∧wr=w)
 case atStart=>exact ⟨⟨0,rfl,rfl,rfl,Nat.zero_le _,rfl⟩,rfl⟩
 case round=>
  obtain ⟨⟨j,rfl,rfl,rfl,hj,rfl⟩,rfl⟩ :=hrel
  have:IntKind.i64.wrap (1+(j:Int)+1)=1+(j:Int)+1:=IntWalk.i64_in _ oM
  by_cases hlt:j<D
  ·obtain ⟨hk,hb,hdg⟩ :=HAT.out j hlt
   have d1:decide (1+(j:Int)<(s.size:Int))=true:=by rw [decide_eq_true_eq];omega
   have hX:=idx_run s (1+j) hk (1+(j:Int)) oM
   have hDy:=qdigit_yes _ hdg
   have hV1:=HV.out (j+1)
   have hV:=HV.out j
   have hvt:=val_take ds j oM
   rw [hvt] at hV1
   rw [←hb] at hV1 hvt
   obtain ⟨b,hbe⟩:∃b,(s[1+j]'hk).toNat=b:=⟨_,rfl⟩
   unfold dv at hV1 hvt
   have g1:=hdg.1
   have g2:=hdg.2
   rw [hbe] at hX hDy hV1 hvt g1 g2
   obtain ⟨V,hVe⟩:∃V,val (ds.take j)=V:=⟨_,rfl⟩
   rw [hVe] at hV hV1 hvt
   simp only [hVe]
   have w1:IntKind.u8.wrap ((b:Int)-48)=(b:Int)-48:=IntWalk.u8_in _ oM
   have:IntKind.i64.wrap ((b:Int)-48)=(b:Int)-48:=IntWalk.i64_in _ oM
   have:IntKind.i64.wrap ((V:Int) * 10)=(V:Int) * 10:=IntWalk.i64_in _ oM
   have:IntKind.i64.wrap ((V:Int) * 10+((b:Int)-48))=(V:Int) * 10+((b:Int)-48):=IntWalk.i64_in _ oM
   have:decide (9007199254740991<(V:Int) * 10+((b:Int)-48))=false:=by rw [decide_eq_false_iff_not];omega
   have HVT:=hid hvt
   clear hb hdg hV1 hV hvt hbe hVe
   go_wp2_with (first|(go_at_call 210;refine (hDy _).mono ?_;rintro e w1 ⟨rfl,rfl⟩))
   go_roundg (D-(j+1))
   case measure=>go_light;omega
   case rel=>go_light;exact ⟨⟨j+1,by congr 1 <;> omega,by rw [HVT.out];congr 1;omega,rfl,by omega,rfl⟩,rfl⟩
  ·obtain rfl:j=D:=oM
   have ht:ds.take j=ds:=List.take_of_length_le oM
   rw [ht] at hvd
   simp only [ht]
   obtain ⟨hz,hb0,-⟩ :=HAT.out 0 oM
   have hX0:=idx_run s 1 hz 1 rfl
   have h48:(s[1]'hz).toNat≠48:=fun h=>by
    apply HZ.out
    rw [List.head?_eq_getElem?,List.getElem?_eq_getElem (by omega),←hb0]
    congr 1
    exact UInt8.toNat_inj.1 h
   obtain ⟨b,hbe⟩:∃b,(s[1]'hz).toNat=b:=⟨_,rfl⟩
   rw [hbe] at hX0 h48
   have:(1+(j:Int)==1)=false:=by rw [beq_eq_false_iff_ne];omega
   have:((b:Int)==48)=false:=by rw [beq_eq_false_iff_ne];omega
   obtain ⟨V,hVe⟩:∃V,val ds=V:=⟨_,rfl⟩
   rw [hVe] at hvd
   have:IntKind.i64.wrap (-(V:Int))=-(V:Int):=IntWalk.i64_in _ oM
   simp only [hVe]
   have e0:ds.length=j:=oM
   clear HAT HZ HV hb0 hbe ht h48
   by_cases hse:1+j<s.size
   ·have d1:decide (1+(j:Int)<(s.size:Int))=true:=by rw [decide_eq_true_eq];omega
    have hX:=idx_run s (1+j) hse (1+(j:Int)) oM
    have hDn:=qdigit_no _ (HEND.out hse)
    go_wp2_with (first|(go_at_call 210;refine (hDn _).mono ?_;rintro e w1 ⟨rfl,rfl⟩))
    try simp only [Exit.inBlock,Exit.then]
    refine bodyPost_ret (v:=.tuple #[.int .i64 (-(V:Int)),.int .i64 (1+(j:Nat):Int),.int .i64 0]) (by simp [results,results211,go_sem]) rfl ⟨by rw [e0,hVe],qR⟩
   ·have d1:decide (1+(j:Int)<(s.size:Int))=false:=by rw [decide_eq_false_iff_not];omega
    go_wp2_with fail
    try simp only [Exit.inBlock,Exit.then]
    refine bodyPost_ret (v:=.tuple #[.int .i64 (-(V:Int)),.int .i64 (1+(j:Nat):Int),.int .i64 0]) (by simp [results,results211,go_sem]) rfl ⟨by rw [e0,hVe],qR⟩
def dif:List UInt8→List UInt8→Bool
 | a::x,b::y=>a != b || dif x y
 | _,_=>false
theorem dif_no: ∀(x y r:List UInt8),dif x y=true→y.isPrefixOf (x++r)=false
 | [],_,_,h=>by simp [dif] at h
 | _::_,[],_,h=>by simp [dif] at h
 | a::x,b::y,r,h=>by
  simp only [List.cons_append,List.isPrefixOf]
  by_cases hab:a=b
  ·subst hab
   simp [dif] at h
   rw [dif_no x y r h];simp
  ·rw [show (b==a)=false by rw [beq_eq_false_iff_ne];exact fun e=>hab e.symm];rfl
theorem long_no(x r:List UInt8)(h:r.head?≠some 61): (x++[61]).isPrefixOf (x++r)=false:=by
 induction x with
 | nil=>
  cases r with
  | nil=>rfl
  | cons b r=>
   simp only [List.nil_append,List.isPrefixOf]
   rw [show ((61:UInt8)==b)=false by rw [beq_eq_false_iff_ne];rintro rfl;exact h rfl];rfl
 | cons a x ih=>simp only [List.cons_append,List.isPrefixOf];rw [ih];simp
theorem pre_self(x r:List UInt8): x.isPrefixOf (x++r)=true:=List.isPrefixOf_iff_prefix.2 ⟨r,rfl⟩
def usd:List Nat:=[3,4,5,6,7,8,10,11,17,19,20]
def syb (c:UInt8):Bool:=decide (c.toNat<128) && !(decide (48≤c.toNat) && decide (c.toNat≤57)) && !(decide (97≤c.toNat) && decide (c.toNat≤122)) && !(decide (65≤c.toNat) && decide (c.toNat≤90)) && c.toNat != 95 && c.toNat != 34 && c.toNat != 39 && c.toNat != 45 && !(blk.data.toList.contains c)
theorem syb_sy{c:UInt8}(h:syb c=true): Sy c∧blk.data.toList.contains c=false:=by
 simp only [syb,Bool.and_eq_true,Bool.not_eq_true',Bool.and_eq_false_iff,decide_eq_true_eq,decide_eq_false_iff_not,bne_iff_ne,ne_eq] at h
 obtain ⟨⟨⟨⟨⟨⟨⟨⟨h1,h2⟩,h3⟩,h4⟩,h5⟩,h6⟩,h7⟩,h8⟩,h9⟩ :=h
 refine ⟨⟨h1,fun k=>?_,?_,?_,h5,h6,h7,h8⟩,h9⟩
 ·have:=k.1;have:=k.2;omega
 ·omega
 ·omega
theorem usd_ok: ∀i∈usd,∃x,sgs[i]?=some x∧(∃c l,x.data.toList=c::l∧syb c=true)∧∀j,j<i→∀y,sgs[j]?=some y→dif x.data.toList y.data.toList=true∨((i=19∨i=20)∧y.data.toList=x.data.toList++[61]):=by
 intro i hi
 simp only [usd,List.mem_cons,List.not_mem_nil,or_false] at hi
 rcases hi with rfl|rfl|rfl|rfl|rfl|rfl|rfl|rfl|rfl|rfl|rfl
 all_goals
  refine ⟨_,rfl,⟨_,_,rfl,by decide⟩,?_⟩
  intro j hj y hy
  have hjj:j=0∨j=1∨j=2∨j=3∨j=4∨j=5∨j=6∨j=7∨j=8∨j=9∨j=10∨j=11∨j=12∨j=13∨j=14∨j=15∨j=16∨j=17∨j=18∨j=19:=oM
  rcases hjj with rfl|rfl|rfl|rfl|rfl|rfl|rfl|rfl|rfl|rfl|rfl|rfl|rfl|rfl|rfl|rfl|rfl|rfl|rfl|rfl <;> first|(exfalso;omega)|(simp only [sgs,List.getElem?_cons_succ,List.getElem?_cons_zero,Option.some.injEq] at hy;subst hy;decide)
theorem ex_list(s:ByteArray)(k:Nat): (s.extract k s.size).data.toList=s.data.toList.drop k:=by
 rw [ByteArray.data_extract,Array.toList_extract,List.extract_eq_take_drop]
 exact List.take_of_length_le (by rw [List.length_drop,←Lib.size_eq];exact qL)
theorem lx_sign(s:ByteArray)(hs:s.size≤4096)(k i:Nat)(hi:i∈usd)(x:ByteArray)(hx:sgs[i]?=some x)(r:List UInt8)(hl:s.data.toList.drop k=x.data.toList++r)(hr:i=19∨i=20→r.head?≠some 61)(ts:List Tok)(h:LexAt s (k+x.size) ts): LexAt s k (⟨1,x,0,(k:Nat)⟩ ::ts):=by
 obtain ⟨x',hx',⟨c,l,hc,hcs⟩,hp⟩ :=usd_ok i hi
 rw [hx] at hx'
 injection hx' with hx'
 subst hx'
 obtain ⟨hsy,hbk⟩ :=syb_sy hcs
 have hR:=ex_list s k
 rw [hl] at hR
 have hxs:x.size=x.data.toList.length:=Lib.size_eq x
 have hlen:s.size-k=x.size+r.length:=by
  have:=congrArg List.length hl
  rw [List.length_drop,←Lib.size_eq,List.length_append,←hxs] at this
  exact this
 have hx1:0<x.size:=by rw [hxs,hc];simp
 refine .cons k x.size ⟨1,x,0,(k:Nat)⟩ ts hx1 oM ?_ rfl ?_ h
 ·rw [hR]
  refine dropWhile_no _ _ ?_
  intro b hb
  rw [hc] at hb
  simp at hb
  subst hb
  exact hbk
 ·intro W
  refine one_sign (s.extract k s.size) (by simp;omega) c (l++r) (by rw [hR,hc];rfl) hsy i x hx ?_ ?_ W
  ·rw [hR];exact pre_self _ _
  ·intro j y hj hy
   rw [hR]
   rcases hp j hj y hy with h1|⟨h0,h1⟩
   ·exact dif_no _ _ _ h1
   ·show y.data.toList.isPrefixOf _=false
    rw [h1];exact long_no _ _ (hr h0)
end Nn
section
set_option maxRecDepth 100000
open Go.RowKit Go.Shelf
attribute [local go_sem] Oper.semAt_some
theorem lin_any(n:Nat)(s:ByteArray)(w:World):
  CallsIn Fence.wide n prog 64 #[.string s] w fun e w'=>e=.returned (.func (.func 127) #[] #[.pointer (some ⟨w.heap.size,0,none⟩)])∧w'=w.alloc (.cells #[.string s] 9):=by
 refine callsIn_of_wp func64 rfl trivial ?_ rfl
 simp only [ntmps64,List.size_toArray,List.length_cons,List.length_nil,Nat.reduceAdd,Nat.reduceSub,Array.replicate_succ,Array.replicate_zero,List.push_toArray,List.append_toArray,List.nil_append,List.cons_append]
 gi_wp2
 go_ret
 exact ⟨rfl,rfl⟩
theorem ixb_10(s:ByteArray)(h:s.data.toList.contains 10=false)(w:World): Calls prog 128 #[.string s,.int .u8 10] w fun e w'=>e=.returned (.int .i64 (-1))∧w=w':=ixb_no 10 s h w
theorem lin1_in(n:Nat)(hn:1≤n)(l Bn:Nat)(s:ByteArray)(hs:s.size≤100000)(hpos:0<s.size)(h10:s.data.toList.contains 10=false)(J Jx:List (Int × Int)→World→Prop)(hY:∀pre x W,J pre W→pre.length<1→YieldAt Fence.wide (n-1) prog l #[.agg #[.int .i64 x.1,.int .i64 x.2]] W fun e W'=>
   (e=.returned (.bool true)∧J (pre++[x]) W'∧Tx.KpB Bn W W')∨(e=.returned (.bool false)∧Jx (pre++[x]) W'))(W:World)(hBn:W.cell? ⟨Bn,0,none⟩=some (.string s))(h0:J [] W):
  CallsIn Fence.wide n prog 127 #[.func (.yield l) #[] #[],.pointer (some ⟨Bn,0,none⟩)] W fun e W'=>(∃v,e=.returned v)∧
   ((∃ys,ys=[((0:Int),(s.size:Int))]∧J ys W')∨(∃pre,pre <+: [((0:Int),(s.size:Int))]∧Jx pre W')):=by
 have:(0:Int)<(s.size:Int):=oM
 have hI:=ixb_10 s h10
 have HX:=hid h10
 clear h10
 obtain ⟨fn,tmps,assign,body,hy,hR⟩ :=hY [] (0,(s.size:Int)) W h0 sM
 dsimp only at hy
 refine callsIn_of_wp func127 rfl trivial ?_ rfl
 simp only [ntmps127,List.size_toArray,List.length_cons,List.length_nil,Nat.reduceAdd,Nat.reduceSub,Array.replicate_succ,Array.replicate_zero,List.push_toArray,List.append_toArray,List.nil_append,List.cons_append]
 gi_wp2
 refine wpIn_loop_rounds 2 ?_
 rw [roundsIn_succ]
 gi_wp2_with (first|(refine ⟨trivial,?_⟩;gi_at_call 128;refine (callsIn_wide.2 (hI _)).mono ?_;rintro e w9 ⟨rfl,rfl⟩))
 refine hR.mono ?_
 rintro e W3 (⟨rfl,hJ3,hk3⟩|⟨rfl,hJx3⟩)
 ·have hB3:=hk3 _ hBn
  gi_wp2
  rw [roundsIn_succ]
  gi_wp2
  go_end0
  exact ⟨⟨_,rfl⟩,.inl ⟨_,rfl,hJ3⟩⟩
 ·gi_wp2
  refine bodyPost_ret (results_none rfl _ _ _) rfl ?_
  exact ⟨⟨_,rfl⟩,.inr ⟨_,List.prefix_refl _,hJx3⟩⟩
theorem lin_stops(n:Nat)(hn:1≤n)(Bn:Nat)(s:ByteArray)(hs:s.size≤100000)(hpos:0<s.size)(h10:s.data.toList.contains 10=false)(w:World)(hBn:Bn<w.heap.size)(hc:w.cell? ⟨Bn,0,none⟩=some (.string s)):
  SeqStopsK Fence.wide n prog 127 #[.pointer (some ⟨Bn,0,none⟩)] (fun x:Int × Int=>#[Value.agg #[.int .i64 x.1,.int .i64 x.2]]) (Tx.KpB Bn) (fun ys=>ys=[((0:Int),(s.size:Int))]) (fun pre=>pre <+: [((0:Int),(s.size:Int))]) 1 w:=fun l J Jx W hW _ _ hY h0=>
 lin1_in n hn l Bn s hs hpos h10 J Jx hY W ((hW.cell (p:=⟨Bn,0,none⟩) hBn).trans hc) h0
theorem cell_kept_l{W:World}{a:Addr}{v:Value}(h:W.cell? a=some v)(D:Nat)(hK:W.heap[D]?=some (.deferred (some []))): (W.putObj D (.deferred none)).cell? a=some v:=
 cell_kept h (grownBy_putObj' _ D (.deferred none)) (fun r e=>by cases e;exact ⟨_,hK,rfl⟩)
theorem info61: (prog.info? 66).map (fun i=>(i.zero,i.size,i.bytes))=some (some (.agg #[.int .i64 0,.int .i64 0]),2,16):=by kernel_rfl
def LnI (w:World) (s:ByteArray) (pre:List (Int × Int)) (W:World):Prop:=(∃v,Boxed W (w.heap.size+2) 95 v∧W.ownsRow w.heap.size 66 2 v pre.length (pre.flatMap fun x=>[Value.int .i64 x.1,Value.int .i64 x.2])∧(pre=[]→v=.slice none 0 0))∧Boxed W w.heap.size 95 (.slice none 0 0)∧Boxed W (w.heap.size+1) 43 (.int .i64 0)∧Boxed W (w.heap.size+3) 9 (.string s)
set_option maxHeartbeats 4000000 in
theorem lines_1(s:ByteArray)(hs:s.size≤100000)(hpos:0<s.size)(h10:s.data.toList.contains 10=false)(w:World):
  Calls prog 35 #[.string s] w fun e w'=>∃g c,e=.returned (.tuple #[.slice (some ⟨g,0,none⟩) 1 c,.int .i64 0])∧Two w' g s.size∧Below w.heap.size w w':=by
 have:¬(1048576:Int)<(s.size:Int):=oM
 obtain ⟨i0,hi,hz0,hz1,hz2⟩ :=info_parts info61
 have H10:=hid h10
 clear h10
 refine (callsIn_wide (n:=5)).1 ?_
 refine callsIn_of_wp_marks func35 rfl trivial ?_ rfl
 simp only [ntmps35,List.size_toArray,List.length_cons,List.length_nil,Nat.reduceAdd,Nat.reduceSub,Array.replicate_succ,Array.replicate_zero,List.push_toArray,List.append_toArray,List.nil_append,List.cons_append]
 gi_wp2_with (refine ⟨trivial,?_⟩;gi_at_call 64;refine (lin_any _ s _).mono ?_;rintro e w' ⟨rfl,rfl⟩)
 have b0:=(((Boxed.new w 95 (.slice none 0 0)).alloc (.cells #[.int .i64 0] 43)).alloc (.cells #[.slice none 0 0] 95)).alloc (.cells #[.string s] 9)
 have b1:=((Boxed.new (w.alloc (.cells #[.slice none 0 0] 95)) 43 (.int .i64 0)).alloc (.cells #[.slice none 0 0] 95)).alloc (.cells #[.string s] 9)
 have b2:=(Boxed.new ((w.alloc (.cells #[.slice none 0 0] 95)).alloc (.cells #[.int .i64 0] 43)) 95 (.slice none 0 0)).alloc (.cells #[.string s] 9)
 have b3:=Boxed.new (((w.alloc (.cells #[.slice none 0 0] 95)).alloc (.cells #[.int .i64 0] 43)).alloc (.cells #[.slice none 0 0] 95)) 9 (.string s)
 simp only [World.size_alloc] at b1 b2 b3
 have hB0:Below w.heap.size w ((((w.alloc (.cells #[.slice none 0 0] 95)).alloc (.cells #[.int .i64 0] 43)).alloc (.cells #[.slice none 0 0] 95)).alloc (.cells #[.string s] 9)):=((((Below.refl _ w).alloc qL _).alloc sM _).alloc (by simp;omega) _).alloc (by simp;omega) _
 refine wpIn_rangeFunc_ownH rfl oM (gf:=127) (lb:=#[.pointer (some ⟨w.heap.size+1+1+1,0,none⟩)]) rfl trivial (enters_of func127 (by kernel_rfl) rfl)
  (lin_stops _ oM (w.heap.size+3) s hs hpos H10.out _ sM b3.cell) Tx.KpB_t Tx.KpB_b qR (fun _=>rfl)
  (fun pre W=>LnI w s pre W∧Below w.heap.size w W)
  (fun _ _ _=>False)
  (OwnFrom.and (Own.from (fun p A B row hs hg hr=>⟨holdsRow_own w.heap.size (w.heap.size+2) 95 66 2 (fun pre:List (Int × Int)=>pre.length) (fun pre=>pre.flatMap fun x=>[Value.int .i64 x.1,Value.int .i64 x.2]) (fun pre v=>pre=[]→v=.slice none 0 0) p A B row hs.1 hg hr,boxed_own hs.2.1 hg hr,boxed_own hs.2.2.1 hg hr,boxed_own hs.2.2.2 hg hr⟩) _) (ownFrom_below qL (by simp;omega)))
  (fun _ _ _ _ _ hs _ _=>hs)
  ⟨⟨⟨_,b2,World.ownsRow_nil _ _ _ _,fun _=>rfl⟩,b0,b1,b3⟩,hB0⟩
  (fun x a' W=>∃b,w.heap.size≤b∧W.heap[b]?=some (.cells #[.int .i64 x.1,.int .i64 x.2] 66 (0,0))∧a'={ tmps:=#[.string s,undef,.pointer (some ⟨w.heap.size,0,none⟩),.pointer (some ⟨w.heap.size+1,0,none⟩),.pointer (some ⟨w.heap.size+1+1,0,none⟩),.pointer (some ⟨b,0,none⟩),.string s,.int .i64 (s.size:Nat),.bool false,.string s,.func (.func 127) #[] #[.pointer (some ⟨w.heap.size+1+1+1,0,none⟩)],.agg #[.int .i64 x.1,.int .i64 x.2],undef,undef,undef,undef,undef,undef,undef,undef],defers:=[] })
  (fun x a'=>Own.from (fun p A B row hs hg hr=>by
   obtain ⟨b,h1,h2,h3⟩ :=hs
   refine ⟨b,h1,(hg.block b (Array.getElem?_eq_some_iff.1 h2).1 (fun e'=>?_)).trans h2,h3⟩
   obtain ⟨o,ho,hc⟩ :=hr b e'.symm
   rw [h2] at ho;cases ho;cases hc) _)
  ?assign ?body ?done ?stop
 case assign=>
  rintro l pre x W K ⟨⟨⟨v,hv,hrow,hnil⟩,h0,h1,hN⟩,hB⟩ hK
  gi_wp2
  exact hK _ _ ((KeepsOthers.alloc W _).from _) (Boxed.kp hN (hN.alloc _)) ⟨⟨⟨v,hv.alloc _,hrow.alloc _,hnil⟩,h0.alloc _,h1.alloc _,hN.alloc _⟩,hB.alloc hB.size _⟩ ⟨W.heap.size,hB.size,World.alloc_heap_new W _,rfl⟩
 case body=>
  rintro l pre ⟨x1,x2⟩ a' W hl hlr ⟨⟨⟨v,hv,hrow,hnil⟩,h0,h1,hN⟩,hB⟩ ⟨b,hb,hbk,rfl⟩ hlt
  obtain rfl:pre=[]:=List.eq_nil_of_length_eq_zero oM
  obtain rfl:=hnil rfl
  have hc:W.cell? ⟨w.heap.size+1+1,0,none⟩=some (.slice none 0 0):=hv.cell
  have:W.cell? ⟨b,0,none⟩=some (.int .i64 x1):=by simp [World.cell?,hbk]
  have:W.cell? ⟨b,1,none⟩=some (.int .i64 x2):=by simp [World.cell?,hbk]
  have:b<W.heap.size:=(Array.getElem?_eq_some_iff.1 hbk).1
  gi_wp2_with (gi_at_builtin;refine wpListIn_append_own _ rfl _ _ 95 rfl w.heap.size 66 i0 (.agg #[.int .i64 0,.int .i64 0]) 2 16 underlying95 hi hz0 hz1 hz2 rfl (by decide) _ _ _ rfl (hrow.alloc _) ⟨W.heap.size,0,none⟩ 1 1 [.int .i64 x1,.int .i64 x2] rfl rfl (World.news_of_block (heap_alloc_new _ _)) (by simp [Value.oneCell']) (by unfold maxLen;simp) sM (by have:=hB.size;simp;omega) ?_;intro v' w1 hown' hgrow _;obtain ⟨g',cap',rfl⟩ :=ownsRow_succ hown';have h0':=Boxed.other ((h0.alloc _).kept hgrow (h0.not_row (by decide) hrow)) (show w.heap.size≠w.heap.size+2 by omega) (.slice (some ⟨g',0,none⟩) 1 cap');have h1':=Boxed.other ((h1.alloc _).kept hgrow (h1.not_row (by decide) hrow)) (show w.heap.size+1≠w.heap.size+2 by omega) (.slice (some ⟨g',0,none⟩) 1 cap');have hN':=Boxed.other ((hN.alloc _).kept hgrow (hN.not_row (by decide) hrow)) (show w.heap.size+3≠w.heap.size+2 by omega) (.slice (some ⟨g',0,none⟩) 1 cap');obtain ⟨hv1,hv2,hr2,hk2,hb2⟩ :=hv.appended (by decide) hrow hB.size (show w.heap.size≤w.heap.size+2 by omega) hown' hgrow;have hc1:w1.cell? ⟨w.heap.size+1+1,0,none⟩=some (.slice none 0 0):=hv1.cell;have hf1:w1.frozen? ⟨w.heap.size+1+1,0,none⟩=false:=hv1.frozen)
  exact ⟨hk2.from _,Boxed.kp hN hN',⟨⟨_,hv2,hr2,fun h=>absurd h sM⟩,h0',h1',hN'⟩,hB.trans hb2⟩
 case done=>
  rintro D ys W hD rfl ⟨⟨⟨v,hv,hrow,-⟩,h0,h1,hN⟩,hB⟩ hK
  obtain ⟨g,cap,rfl⟩ :=ownsRow_succ (k:=0) hrow
  have hr1:=hrow.kept (grownBy_setCell' W w.heap.size (.slice (some ⟨g,0,none⟩) (0+1) cap)) (.inr (h0.not_row (by decide) hrow).symm)
  have h1':=Boxed.other h1 (show w.heap.size+1≠w.heap.size by omega) (.slice (some ⟨g,0,none⟩) (0+1) cap)
  have hr2:=hr1.kept (grownBy_setCell' _ (w.heap.size+1) (.int .i64 0)) (.inr (h1'.not_row (by decide) hr1).symm)
  have hK':=((KeepsOthers.setCell W ⟨w.heap.size,0,none⟩ (.slice (some ⟨g,0,none⟩) (0+1) cap)).trans (KeepsOthers.setCell _ ⟨w.heap.size+1,0,none⟩ (.int .i64 0))).same D _ hK rfl
  have hBf:=((hB.setCell (p:=⟨w.heap.size,0,none⟩) qL (.slice (some ⟨g,0,none⟩) (0+1) cap)).setCell (p:=⟨w.heap.size+1,0,none⟩) (Nat.le_succ _) (.int .i64 0)).trans (belowK_b (w:=w) qL _ D _ (.deferred none) (by simp at hD;omega) hK' rfl rfl)
  have hr3:=ownsRow_putObj hr2 (.deferred none) hK' rfl
  have y0:=Boxed.other (Boxed.set (.slice (some ⟨g,0,none⟩) (0+1) cap) h0) (show w.heap.size≠w.heap.size+1 by omega) (.int .i64 0)
  have y1:=Boxed.set (.int .i64 0) h1'
  have hc5:=cell_kept_l y0.cell D hK'
  have hc6:=cell_kept_l y1.cell D hK'
  have hA:Acc w _ 66 2 (.slice (some ⟨g,0,none⟩) (0+1) cap) (0+1) _:=⟨hr3,hBf⟩
  have hrw:=hA.row
  have HT:Hid (Two _ g s.size):=hid ⟨hrw.2.1,hrw.2.2 0 _ rfl,hrw.2.2 1 _ rfl⟩
  have HB:=hid hBf
  have hc:W.cell? ⟨w.heap.size+1+1,0,none⟩=some (.slice (some ⟨g,0,none⟩) 1 cap):=hv.cell
  have hc0:=h0.cell
  have hc1:=h1.cell
  have hf0:=h0.frozen
  have hf1:=h1.frozen
  have lt0:=h0.lt
  have lt1:=h1.lt
  clear hrw hA hr1 hr2 hr3 y0 y1 h1'
  gi_wp2
  refine ⟨by simp,.inl ⟨_,_,rfl,run_takeDeferred hK',?_⟩⟩
  refine ⟨.tuple #[.slice (some ⟨g,0,none⟩) 1 cap,.int .i64 0],?_,g,cap,rfl,HT.out,HB.out⟩
  simp [results,f35,go_sem,hc5,hc6]
 case stop=>
  rintro D c pre W _ _ h _
  exact h.elim
end
end Go.Proofs.YtjcioljdlfdnbaaGreatDoor
