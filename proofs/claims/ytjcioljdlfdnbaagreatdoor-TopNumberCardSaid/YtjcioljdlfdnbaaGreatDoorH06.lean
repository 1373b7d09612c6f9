/- Part 6: lemmas for TopNumber; no conditions. -/
import Derived.Test.YtjcioljdlfdnbaaGreatDoorH05
import Derived.RangeFuncNested
import Derived.RangeFuncBound
import Derived.Shelf.RegionOpen
import Derived.OwnWalkIn
import Derived.LoopNIn
import Derived.LoopIn
set_option linter.unusedVariables false
set_option linter.unusedSimpArgs false
set_option maxRecDepth 100000
set_option maxHeartbeats 2000000
open Go.Proofs.Tryz
section
namespace Go.Proofs.Le
open Go.Proofs.Lw
def hexP (c:Int):Int:=if 48≤c∧c≤57 then c-48 else if 97≤c∧c≤102 then c-87 else if 65≤c∧c≤70 then c-55 else -1
def unitA (n:Int):List UInt8→Int
 | []=>n
 | b::l=>if hexP b.toNat<0 then -1 else unitA (n * 16+hexP b.toNat) l
def unitP (l:List UInt8):Int:=if l.length<4 then -1 else unitA 0 (l.take 4)
def simpleP (c:Int):Int:=if c=34∨c=92∨c=47 then c else if c=98 then 8 else if c=102 then 12 else if c=110 then 10 else if c=114 then 13 else if c=116 then 9 else -1
def lowP (l:List UInt8):Int:=if l.take 2=[92,117] then unitP (l.drop 2) else -1
def unitsP (l:List UInt8):Int × Nat:=
 if unitP (l.drop 2)<55296∨57343<unitP (l.drop 2) then (unitP (l.drop 2),6)
 else if unitP (l.drop 2)<56320∧56320≤lowP (l.drop 6)∧lowP (l.drop 6)≤57343 then (65536+(unitP (l.drop 2)-55296) * 1024+(lowP (l.drop 6)-56320),12)
 else (65533,6)
def escP (l:List UInt8):List UInt8→Int × Nat
 | []=>(-1,0)
 | b::_=>if b=117 then unitsP l else (simpleP b.toNat,2)
def charP:List UInt8→Int × Nat
 | []=>(-1,0)
 | a::r=>
  if a=34∨a<32 then (-1,0)
  else if a≠92 then (if (uscal (a::r)).2=0 then -1 else (uscal (a::r)).1,(uscal (a::r)).2)
  else escP (a::r) r
end Go.Proofs.Le
end
namespace Go.Proofs.YtjcioljdlfdnbaaGreatDoor
namespace Tx
set_option maxRecDepth 100000
open Go.RowKit Go.Proofs.Lw Go.Proofs.Le
end Tx
end Go.Proofs.YtjcioljdlfdnbaaGreatDoor
section
namespace Go.Proofs.Le
open Go.Proofs.Lw
def evs (l:List UInt8):Nat→Nat→List (Int × Int)
 | 0,_=>[]
 | f+1,k=>
  if k<l.length∧l[k]?≠some 34 then ((charP (l.drop k)).1,((k+(charP (l.drop k)).2:Nat):Int))::(if (charP (l.drop k)).1=-1 then [] else evs l f (k+(charP (l.drop k)).2))
  else if k+1=l.length then [] else [(-1,(k:Int))]
def charsL (l:List UInt8):List (Int × Int):=if l[0]?=some 34 then evs l (l.length+1) 1 else [(-1,0)]
end Go.Proofs.Le
end
namespace Go.Proofs.YtjcioljdlfdnbaaGreatDoor
namespace Tx
set_option maxRecDepth 100000
open Go.RowKit Go.Shelf Go.Proofs.Lw Go.Proofs.Le
attribute [local go_sem] Oper.semAt_some
theorem uscal_le(l:List UInt8): (uscal l).2≤l.length:=by
 by_cases h:(uscal l).2=0
 ·omega
 ·exact (uscal_some l h).1
def KpB (B:Nat) (W W':World):Prop:=∀v,W.cell? ⟨B,0,none⟩=some v→W'.cell? ⟨B,0,none⟩=some v
theorem KpB_t{B:Nat}{W1 W2 W3:World}(h:KpB B W1 W2)(k:KpB B W2 W3): KpB B W1 W3:=fun v hv=>k v (h v hv)
theorem KpB_b{B:Nat}{w:World}(W:World)(l:Nat)(o o':Obj)(_:w.heap.size≤l)(h:W.heap[l]?=some o)(ho:o.isCells=false)(_:o.isWalk=false): KpB B W (W.putObj l o'):=fun v hv=>
 cell_kept hv (grownBy_putObj' W l o') (fun r e=>by cases e;exact ⟨o,h,ho⟩)
end Tx
namespace Tx
set_option maxRecDepth 100000
open Go.RowKit Go.Shelf Go.Proofs.Lw Go.Proofs.Le
attribute [local go_sem] Oper.semAt_some
theorem cell_of_box_l{W:World}{B:Nat}{v:Value}{t:TypeId}(h:W.heap[B]?=some (.cells #[v] t (0,0))): W.cell? ⟨B,0,none⟩=some v∧W.frozen? ⟨B,0,none⟩=false:=by
 constructor <;> simp [World.cell?,World.frozen?,h]
theorem is_no{L:List (Int × Int)}{R:Bool}{y:Int × Int}(hR:R=true↔∀y∈L,y.1≠-1)(hy:y∈L)(h1:y.1=-1): R=false:=by
 cases R
 ·rfl
 ·exact absurd h1 (hR.1 rfl y hy)
end Tx
namespace Tx
set_option maxRecDepth 100000
open Go.RowKit
theorem info47: (prog.info? 193).map (·.size)=some 2:=by kernel_rfl
theorem lies47: liesAt prog prog.depth 193 (2 / prog.cellsOf 193) 0 193 1=true:=by kernel_rfl
theorem info5b: (prog.info? 5).map (fun i=>(i.zero,i.size,i.bytes))=some (some (.int .u8 0),1,1):=by kernel_rfl
theorem neB5: (193:TypeId)≠5:=by decide
def SB (B b:Nat) (l:List UInt8) (w:World):Prop:=Lib.IsBuilderF 193 5 B b (Lib.byteCells l) w
def Keeps (B b:Nat) (w w':World):Prop:=Below B w w'∧Lib.OthersKept 5 (some b) w w'
theorem Keeps.refl(B b:Nat)(w:World): Keeps B b w w:=⟨qR,Lib.OthersKept.refl _ _ _⟩
theorem Keeps.trans{B b:Nat}{w w' w'':World}(h:Keeps B b w w')(k:Keeps B b w' w''): Keeps B b w w'':=⟨h.1.trans k.1,h.2.trans k.2⟩
theorem check_fresh(b:Nat)(w:World)(h0:w.cell? ⟨b,0,none⟩=some (.pointer none))(hsh:w.shape? b=some (193,2))(hfz:w.frozen? ⟨b,0,none⟩=false):
  Calls prog 182 #[.pointer (some ⟨b,0,none⟩)] w fun e w'=>e=.returned (.tuple #[])∧w'=w.setCell ⟨b,0,none⟩ (.pointer (some ⟨b,0,none⟩)):=by
 obtain ⟨j,hj,hjs⟩ :=Option.map_eq_some_iff.1 info47
 go_enter func182,ntmps182
 go_wp2
 rw [Lib.run_to_unsafe w ⟨b,0,none⟩ underlying191 underlying370 hj (by rw [hjs];decide) hsh (Nat.zero_lt_succ 1)]
 simp only [Result.andThen]
 rw [Oper.upon_value]
 go_wp2
 rw [run_callFunc_extern func244 (by kernel_rfl) (by kernel_rfl) (by kernel_rfl) (e:=Extern.AbiNoEscape.same) (by kernel_rfl)]
 rw [Lib.run_noEscape]
 simp only [Result.andThen]
 rw [Oper.upon_value]
 go_wp2
 rw [Lib.run_from_unsafe w ⟨b,0,none⟩ underlying370 underlying191 hj hsh lies47]
 simp only [Result.andThen]
 rw [Oper.upon_value]
 go_wp2
 go_end0
 exact ⟨rfl,rfl⟩
theorem check_used(b:Nat)(w:World)(h0:w.cell? ⟨b,0,none⟩=some (.pointer (some ⟨b,0,none⟩))):
  Calls prog 182 #[.pointer (some ⟨b,0,none⟩)] w fun e w'=>e=.returned (.tuple #[])∧w'=w:=by
 obtain ⟨j,hj,_⟩ :=Option.map_eq_some_iff.1 info47
 go_enter func182,ntmps182
 go_wp2
 rw [Lib.run_neq_ptr_same w _ underlying191 hj]
 go_wp2
 go_end0
 exact ⟨rfl,rfl⟩
theorem check_any(B b:Nat)(bs:List Value)(w:World)(h:Lib.IsBuilderF 193 5 B b bs w):
  Calls prog 182 #[.pointer (some ⟨b,0,none⟩)] w fun e w'=>e=.returned (.tuple #[])∧(Lib.BuilderAtF 193 5 B b (.pointer (some ⟨b,0,none⟩)) bs w'∧Below B w w'∧Lib.OthersKept 5 (some b) w w'):=by
 rcases h with h|h
 ·refine (check_fresh b w h.cell0 h.shape h.frozen0).mono ?_
  rintro e w' ⟨rfl,rfl⟩
  exact ⟨rfl,h.used _,(Below.refl B w).setCell (p:=⟨b,0,none⟩) h.1 _,(Lib.OthersKept.refl _ _ w).setCell ⟨b,0,none⟩ rfl _⟩
 ·refine (check_used b w h.cell0).mono ?_
  rintro e w' ⟨rfl,rfl⟩
  exact ⟨rfl,h,Below.refl B _,Lib.OthersKept.refl _ _ _⟩
theorem writeByte_raw(B b:Nat)(bs:List Value)(c:Int)(w:World)(h:Lib.IsBuilderF 193 5 B b bs w)(hlen:bs.length+1≤140737488355328)(_hBw:B≤w.heap.size):
  Calls prog 126 #[.pointer (some ⟨b,0,none⟩),.int .u8 c] w fun e w'=>e=.returned .nilIface∧(Lib.BuilderAtF 193 5 B b (.pointer (some ⟨b,0,none⟩)) (bs++[.int .u8 c]) w'∧Below B w w'∧Lib.OthersKept 5 (some b) w w'):=by
 obtain ⟨i0,hi,hz0,hz1,hz2⟩ :=info_parts info5b
 go_enter func126,ntmps126
 go_wp2_with (go_at_call 182;refine (check_any B b bs _ h).mono ?_)
 rintro e w1 ⟨rfl,h1,hb1,hk1⟩
 obtain ⟨hB,v,hbk,hown,hne⟩ :=h1
 have:w1.cell? ⟨b,0,none⟩=some (.pointer (some ⟨b,0,none⟩)):=by rw [Lib.cell_of_heap hbk];rfl
 have c1:w1.cell? ⟨b,1,none⟩=some v:=by rw [Lib.cell_of_heap hbk];rfl
 go_wp2_with (at_builtin;refine wpList_append_ownF _ rfl _ _ 50 rfl B 5 i0 (.int .u8 0) 1 1 underlying50 hi hz0 hz1 hz2 rfl (by decide) _ _ _ rfl (hown.alloc _) ⟨w1.heap.size,0,none⟩ 1 1 [.int .u8 c] rfl rfl ?c1 ?c2 ?c3 ?c4 ?c5 ?_)
 case c1=>
  intro j u hj
  match j,hj with
  | 0,hj=>simp at hj;subst hj;simp [Addr.add]
 case c2=>intro u hu;simp at hu;subst hu;rfl
 case c3=>unfold maxLen;omega
 case c4=>omega
 case c5=>have:=hb1.size;simp;omega
 intro v' w2 hown' hgrow _
 have hlt:b<w1.heap.size:=by
  rcases Nat.lt_or_ge b w1.heap.size with h'|h'
  ·exact h'
  ·simp [Array.getElem?_eq_none h'] at hbk
 have hb2:w2.heap[b]?=some (.cells #[.pointer (some ⟨b,0,none⟩),v] 193 (0,0)):=by
  rw [hgrow.block b (by simp;omega) (fun e=>hne e.symm),Lib.alloc_old w1 _ b hlt]
  exact hbk
 have:w2.cell? ⟨b,0,none⟩=some (.pointer (some ⟨b,0,none⟩)):=by rw [Lib.cell_of_heap hb2];rfl
 have:w2.cell? ⟨b,1,none⟩=some v:=by rw [Lib.cell_of_heap hb2];rfl
 have:w2.frozen? ⟨b,1,none⟩=false:=Lib.frozen_of_heap hb2 1
 obtain ⟨g,cap,rfl⟩:∃g cap,v'=.slice (some ⟨g,0,none⟩) (bs.length+1) cap:=by
  rcases hown'.2 with ⟨_,h0⟩|⟨g,cap,cur,fz,hv,_⟩
  ·omega
  ·exact ⟨g,cap,hv⟩
 go_wp2
 go_ret
 refine ⟨rfl,?_,?_,((hk1.alloc _).grown hgrow (Lib.ownsRowF_kind (hown.alloc _))).setCell ⟨b,1,none⟩ rfl _⟩
 ·exact Lib.BuilderAtF.put (T:=193) (e:=5) hB hb2 (bs':=bs++[.int .u8 c]) (by simpa using hown') neB5
 ·exact ((hb1.alloc (by have:=hb1.size;omega) _).grown hgrow (by have:=hb1.size;simp;omega) (fun k hk=>(hown.lt k hk).1)).setCell (p:=⟨b,1,none⟩) hB _
theorem byteCells_snoc(l:List UInt8)(c:Int)(h0:0≤c)(h1:c≤255): Lib.byteCells l++[.int .u8 c]=Lib.byteCells (l++[UInt8.ofNat c.toNat]):=by
 have e:((UInt8.ofNat c.toNat).toNat:Int)=c:=by rw [UInt8.toNat_ofNat',Nat.mod_eq_of_lt (by omega)];omega
 simp only [Lib.byteCells,List.map_append,List.map_cons,List.map_nil,e]
theorem byteCells_len(l:List UInt8): (Lib.byteCells l).length=l.length:=by simp [Lib.byteCells]
theorem sb_writeByte(B b:Nat)(l:List UInt8)(c:Int)(w:World)(h:SB B b l w)(hlen:l.length≤100000000)(hBw:B≤w.heap.size)(h0:0≤c)(h1:c≤255):
  Calls prog 126 #[.pointer (some ⟨b,0,none⟩),.int .u8 c] w fun e w'=>e=.returned .nilIface∧SB B b (l++[UInt8.ofNat c.toNat]) w'∧Keeps B b w w':=by
 refine (writeByte_raw B b _ c w h (by rw [byteCells_len];omega) hBw).mono ?_
 rintro e w' ⟨rfl,h1',h2,h3⟩
 rw [byteCells_snoc l c h0 h1] at h1'
 exact ⟨rfl,.inr h1',h2,h3⟩
theorem sb_writeU8(B b:Nat)(l:List UInt8)(c:UInt8)(w:World)(h:SB B b l w)(hlen:l.length≤100000000)(hBw:B≤w.heap.size):
  Calls prog 126 #[.pointer (some ⟨b,0,none⟩),.int .u8 (c.toNat:Nat)] w fun e w'=>e=.returned .nilIface∧SB B b (l++[c]) w'∧Keeps B b w w':=by
 have:=sb_writeByte B b l (c.toNat:Nat) w h hlen hBw oM (by have:=c.toNat_lt;omega)
 simpa using this
theorem writeString_raw(B b:Nat)(bs:List Value)(s:ByteArray)(w:World)(h:Lib.IsBuilderF 193 5 B b bs w)(hlen:bs.length+s.size≤140737488355328)(hBw:B≤w.heap.size):
  Calls prog 99 #[.pointer (some ⟨b,0,none⟩),.string s] w fun e w'=>e=.returned (.tuple #[.int .i64 s.size,.nilIface])∧(Lib.BuilderAtF 193 5 B b (.pointer (some ⟨b,0,none⟩)) (bs++Lib.strCells s) w'∧Below B w w'∧Lib.OthersKept 5 (some b) w w'):=by
 obtain ⟨i0,hi,hz0,hz1,hz2⟩ :=info_parts info5b
 go_enter func99,ntmps99
 go_wp2_with (go_at_call 182;refine (check_any B b bs _ h).mono ?_)
 rintro e w1 ⟨rfl,h1,hb1,hk1⟩
 obtain ⟨hB,v,hbk,hown,hne⟩ :=h1
 have:w1.cell? ⟨b,0,none⟩=some (.pointer (some ⟨b,0,none⟩)):=by rw [Lib.cell_of_heap hbk];rfl
 have:w1.cell? ⟨b,1,none⟩=some v:=by rw [Lib.cell_of_heap hbk];rfl
 go_wp2_with (at_builtin;refine Lib.wpList_append_own_stringF _ rfl _ _ 50 9 rfl B 5 i0 underlying50 underlying9 hi hz0 hz1 hz2 _ _ _ rfl hown s rfl ?c3 ?c4 ?c5 ?_)
 case c3=>unfold maxLen;omega
 case c4=>omega
 case c5=>have:=hb1.size;omega
 intro v' w2 hown' hgrow _
 have hlt:b<w1.heap.size:=by
  rcases Nat.lt_or_ge b w1.heap.size with h'|h'
  ·exact h'
  ·simp [Array.getElem?_eq_none h'] at hbk
 have hb2:w2.heap[b]?=some (.cells #[.pointer (some ⟨b,0,none⟩),v] 193 (0,0)):=by
  rw [hgrow.block b hlt (fun e=>hne e.symm)]
  exact hbk
 have:w2.cell? ⟨b,0,none⟩=some (.pointer (some ⟨b,0,none⟩)):=by rw [Lib.cell_of_heap hb2];rfl
 have:w2.cell? ⟨b,1,none⟩=some v:=by rw [Lib.cell_of_heap hb2];rfl
 have:w2.frozen? ⟨b,1,none⟩=false:=Lib.frozen_of_heap hb2 1
 obtain ⟨ao,n',cap,rfl⟩:∃ao n' cap,v'=.slice ao n' cap:=by
  rcases hown'.2 with ⟨hv,_⟩|⟨g,cap,cur,fz,hv,_⟩
  ·exact ⟨_,_,_,hv⟩
  ·exact ⟨_,_,_,hv⟩
 go_wp2
 go_ret2
 refine ⟨rfl,?_,?_,(hk1.grown hgrow (Lib.ownsRowF_kind hown)).setCell ⟨b,1,none⟩ rfl _⟩
 ·exact Lib.BuilderAtF.put (T:=193) (e:=5) hB hb2 (bs':=bs++Lib.strCells s) (by simpa [Lib.strCells_length] using hown') neB5
 ·exact (hb1.grown hgrow (by have:=hb1.size;omega) (fun k hk=>(hown.lt k hk).1)).setCell (p:=⟨b,1,none⟩) hB _
theorem sb_writeString(B b:Nat)(l:List UInt8)(s:ByteArray)(w:World)(h:SB B b l w)(hlen:l.length≤100000000)(hs:s.size≤100000000)(hBw:B≤w.heap.size):
  Calls prog 99 #[.pointer (some ⟨b,0,none⟩),.string s] w fun e w'=>e=.returned (.tuple #[.int .i64 s.size,.nilIface])∧SB B b (l++s.data.toList) w'∧Keeps B b w w':=by
 refine (writeString_raw B b _ s w h (by rw [byteCells_len];omega) hBw).mono ?_
 rintro e w' ⟨rfl,h1',h2,h3⟩
 have e1:Lib.byteCells l++Lib.strCells s=Lib.byteCells (l++s.data.toList):=by simp [Lib.byteCells,Lib.strCells]
 rw [e1] at h1'
 exact ⟨rfl,.inr h1',h2,h3⟩
theorem sb_string(B b:Nat)(l:List UInt8)(w:World)(h:SB B b l w)(hBw:B≤w.heap.size):
  Calls prog 102 #[.pointer (some ⟨b,0,none⟩)] w fun e w'=>e=.returned (.string ⟨l.toArray⟩)∧SB B b l w'∧Keeps B b w w':=
 (Tryz.Builder_String_any_k B b l w h hBw).mono fun _ _ ⟨he,h1,h2,h3⟩ =>⟨he,h1,h2,h3⟩
end Tx
namespace Tx
set_option maxRecDepth 100000
open Go.RowKit Go.Shelf Go.Proofs.Lw Go.Proofs.Le
attribute [local go_sem] Oper.semAt_some
def textL:List (Int × Int)→List UInt8
 | []=>[]
 | x::L=>(strOfNums (putN x.1)).data.toList++textL L
theorem SB.same{B b:Nat}{l:List UInt8}{w w':World}(h:SB B b l w)(hs:∀(k:Nat) (o:Obj),w.heap[k]?=some o→o.isCells=true→w'.heap[k]?=some o): SB B b l w':=by
 have key:∀p bs,Lib.BuilderAtF 193 5 B b p bs w→Lib.BuilderAtF 193 5 B b p bs w':=by
  rintro p bs ⟨hB,v,hb,⟨hl,h0|⟨g,cap,cur,fz,hv,hg,hc,r⟩⟩,hne⟩
  ·exact ⟨hB,v,hs _ _ hb rfl,⟨hl,.inl h0⟩,hne⟩
  ·exact ⟨hB,v,hs _ _ hb rfl,⟨hl,.inr ⟨g,cap,cur,fz,hv,hg,hs _ _ hc rfl,r⟩⟩,hne⟩
 exact h.elim (fun x=>.inl (key _ _ x)) (fun x=>.inr (key _ _ x))
theorem SB.below{B b:Nat}{l:List UInt8}{w w':World}(h:SB B b l w)(hb:Below w.heap.size w w'): SB B b l w':=
 h.same (fun k o hk _=>by rw [hb.block k (Array.getElem?_eq_some_iff.1 hk).1];exact hk)
theorem SB.own{B b:Nat}{l:List UInt8}{w w':World}{row:Option Nat}(h:SB B b l w)(hg:w.grownBy w' row)(hr:∀r,row=some r→∃o:Obj,w.heap[r]?=some o∧o.isCells=false): SB B b l w':=
 h.same (fun k o hk ho=>by
  rw [hg.block k (Array.getElem?_eq_some_iff.1 hk).1 (fun e=>by
   obtain ⟨o',h1,h2⟩ :=hr k e.symm
   rw [hk] at h1;cases h1;rw [ho] at h2;exact absurd h2 (by decide))]
  exact hk)
theorem SB.other{B b q:Nat}{l:List UInt8}{w:World}{C:Array Value}{t:TypeId}{fz:Nat × Nat}(h:SB B b l w)(hq:w.heap[q]?=some (.cells C t fz))(h5:t≠5)(h39:t≠193)(o:Nat)(v:Value): SB B b l (w.setCell ⟨q,o,none⟩ v):=by
 have key:∀p bs,Lib.BuilderAtF 193 5 B b p bs w→Lib.BuilderAtF 193 5 B b p bs (w.setCell ⟨q,o,none⟩ v):=by
  have ne:∀(k:Nat) (C':Array Value) (t':TypeId) (fz':Nat × Nat),w.heap[k]?=some (.cells C' t' fz')→t'≠t→k≠q:=fun k C' t' fz' hk ht e=>by
   subst e;rw [hq] at hk;injection hk with hk;injection hk with h1 h2 h3;exact ht h2.symm
  rintro p bs ⟨hB,v',hb,⟨hl,h0|⟨g,cap,cur,fz',hv,hg,hc,r⟩⟩,hne⟩
  ·exact ⟨hB,v',by rw [Below.heap_setCell _ _ _ _ (ne _ _ _ _ hb (Ne.symm h39))];exact hb,⟨hl,.inl h0⟩,hne⟩
  ·exact ⟨hB,v',by rw [Below.heap_setCell _ _ _ _ (ne _ _ _ _ hb (Ne.symm h39))];exact hb,⟨hl,.inr ⟨g,cap,cur,fz',hv,hg,by rw [Below.heap_setCell _ _ _ _ (ne _ _ _ _ hc (Ne.symm h5))];exact hc,r⟩⟩,hne⟩
 exact h.elim (fun x=>.inl (key _ _ x)) (fun x=>.inr (key _ _ x))
def Bx (W:World) (k:Nat) (v:Value) (t:TypeId):Prop:=W.heap[k]?=some (.cells #[v] t (0,0))
theorem Bx.own{W W':World}{k:Nat}{v:Value}{t:TypeId}{row:Option Nat}(h:Bx W k v t)(hg:W.grownBy W' row)(hr:∀r,row=some r→∃o:Obj,W.heap[r]?=some o∧o.isCells=false): Bx W' k v t:=by
 unfold Bx at *
 rw [hg.block k (Array.getElem?_eq_some_iff.1 h).1 (fun e=>by
  obtain ⟨o',h1,h2⟩ :=hr k e.symm
  rw [h] at h1;cases h1;simp [Obj.isCells] at h2)]
 exact h
theorem Bx.below{W W':World}{k:Nat}{v:Value}{t:TypeId}(h:Bx W k v t)(hb:Below W.heap.size W W'): Bx W' k v t:=by
 unfold Bx at *;rw [hb.block k (Array.getElem?_eq_some_iff.1 h).1];exact h
theorem Bx.sb{W W':World}{k B b:Nat}{v:Value}{t:TypeId}(h:Bx W k v t)(hk:Keeps B b W W')(hb:k≠b)(ht:t≠5): Bx W' k v t:=
 hk.2 k _ h (fun e=>by injection e with e;exact hb e) (fun c fz e=>by injection e with h1 h2 h3;exact ht h2)
theorem Bx.alloc{W:World}{k:Nat}{v:Value}{t:TypeId}(h:Bx W k v t)(o:Obj): Bx (W.alloc o) k v t:=h.below (qR.alloc qL _)
theorem Bx.new(W:World)(v:Value)(t:TypeId): Bx (W.alloc (.cells #[v] t)) W.heap.size v t:=World.alloc_heap_new W _
theorem Bx.cells{W:World}{k:Nat}{v:Value}{t:TypeId}(h:Bx W k v t): W.cell? ⟨k,0,none⟩=some v∧W.frozen? ⟨k,0,none⟩=false:=cell_of_box_l h
theorem Bx.set{W:World}{k:Nat}{v:Value}{t:TypeId}(h:Bx W k v t)(v':Value): Bx (W.setCell ⟨k,0,none⟩ v') k v' t:=by
 have hlt:=(Array.getElem?_eq_some_iff.1 h).1
 unfold Bx World.setCell at *
 simp [Array.getElem?_modify,h]
theorem Bx.other{W:World}{k q:Nat}{v:Value}{t:TypeId}(h:Bx W k v t)(hq:k≠q)(v':Value): Bx (W.setCell ⟨q,0,none⟩ v') k v t:=by
 unfold Bx at *;rw [Below.heap_setCell _ _ _ _ hq];exact h
def TX (A:Nat) (s:ByteArray) (l:List UInt8) (W:World):Prop:=
 Bx W A (.string ⟨#[]⟩) 9∧Bx W (A+1) (.int .i64 0) 43∧Bx W (A+3) (.string s) 9∧SB A (A+2) l W
theorem TX.own{A:Nat}{s:ByteArray}{l:List UInt8}{W W':World}{row:Option Nat}(h:TX A s l W)(hg:W.grownBy W' row)(hr:∀r,row=some r→∃o:Obj,W.heap[r]?=some o∧o.isCells=false): TX A s l W':=
 ⟨h.1.own hg hr,h.2.1.own hg hr,h.2.2.1.own hg hr,h.2.2.2.own hg hr⟩
theorem TX.put{A:Nat}{s:ByteArray}{l l':List UInt8}{W w1 w2:World}(h:TX A s l W)(hb:Below W.heap.size W w1)(hS:SB A (A+2) l' w2)(hk:Keeps A (A+2) w1 w2): TX A s l' w2:=
 ⟨(h.1.below hb).sb hk oM (by decide),(h.2.1.below hb).sb hk oM (by decide),(h.2.2.1.below hb).sb hk oM (by decide),hS⟩
theorem TX.kp{A:Nat}{s:ByteArray}{l l':List UInt8}{W W':World}(h:TX A s l W)(h':TX A s l' W'): KpB (A+3) W W':=fun v hv=>by
 have:=h.2.2.1.cells.1
 rw [this] at hv;injection hv with hv;subst hv;exact h'.2.2.1.cells.1
theorem TX.start(w:World)(s:ByteArray): TX w.heap.size s [] ((((w.alloc (.cells #[.string ⟨#[]⟩] 9)).alloc (.cells #[.int .i64 0] 43)).alloc (.cells #[.pointer none,.slice none 0 0] 193)).alloc (.cells #[.string s] 9)):=by
 have h2:=Bx.new (w.alloc (.cells #[.string ⟨#[]⟩] 9)) (.int .i64 0) 43
 have h4:=Bx.new (((w.alloc (.cells #[.string ⟨#[]⟩] 9)).alloc (.cells #[.int .i64 0] 43)).alloc (.cells #[.pointer none,.slice none 0 0] 193)) (.string s) 9
 have h3:=World.alloc_heap_new ((w.alloc (.cells #[.string ⟨#[]⟩] 9)).alloc (.cells #[.int .i64 0] 43)) (.cells #[.pointer none,.slice none 0 0] 193)
 simp only [World.size_alloc] at h2 h3 h4
 have hS:SB w.heap.size (w.heap.size+2) [] (((w.alloc (.cells #[.string ⟨#[]⟩] 9)).alloc (.cells #[.int .i64 0] 43)).alloc (.cells #[.pointer none,.slice none 0 0] 193)):=
  .inl ⟨by omega,.slice none 0 0,h3,World.ownsRowF_nil _ _ _ _,by simp [Value.ownBlock]⟩
 exact ⟨((Bx.new w _ 9).alloc _ |>.alloc _ |>.alloc _),(h2.alloc _ |>.alloc _),h4,hS.below (qR.alloc qL _)⟩
end Tx
end Go.Proofs.YtjcioljdlfdnbaaGreatDoor
section
namespace Go.Proofs.Le
open Go.Proofs.Lw
def hexd (n:Nat):UInt8:=UInt8.ofNat (if n<10 then 48+n else 87+n)
def ctlB (c:Nat):List UInt8:=
 if c=8 then [92,98] else if c=12 then [92,102] else if c=10 then [92,110] else if c=13 then [92,114] else if c=9 then [92,116]
 else [92,117,48,48,hexd (c / 16),hexd (c % 16)]
def escB (m c:UInt8):List UInt8:=if c=m∨c=92 then [92,c] else if c<32 then ctlB c.toNat else [c]
def escL (m:UInt8):List UInt8→List UInt8
 | []=>[]
 | c::l=>escB m c++escL m l
def betL (m:UInt8) (l:List UInt8):List UInt8:=[m]++escL m l++[m]
end Go.Proofs.Le
end
section
namespace Go.Proofs.Le
open Go.Proofs.Lw
theorem uscal_le(l:List UInt8): (uscal l).2≤l.length:=by
 by_cases h:(uscal l).2=0
 ·omega
 ·exact (uscal_some l h).1
def Part (r:List UInt8):Prop:=r=[]∨r=[92]∨∃q,r=92::117::q∧q.length<4
def okS:Nat→List UInt8→Prop
 | 0,_=>True
 | f+1,x=>if x≠[]∧x.head?≠some 34 then (charP x).1≠-1∧okS f (x.drop (charP x).2) else x.length=1
def OkL (l:List UInt8):Prop:=∀y∈charsL l,y.1≠-1
end Go.Proofs.Le
end
section
namespace Go.Proofs.Le
open Go.Proofs.Lw
end Go.Proofs.Le
end
section
namespace Go.Proofs.Le
open Go.Proofs.Lw
def chS:Nat→List UInt8→List Int
 | 0,_=>[]
 | f+1,x=>if x≠[]∧x.head?≠some 34 then (charP x).1::chS f (x.drop (charP x).2) else []
def putS:List Int→List UInt8
 | []=>[]
 | c::L=>putL c++putS L
def textP:List (Int × Int)→List UInt8
 | []=>[]
 | x::L=>putL x.1++textP L
end Go.Proofs.Le
end
section
namespace Go.Proofs.Le
open Go.Proofs.Lw
def rA:Nat→List UInt8→List Int→Option (List Int)
 | 0,_,_=>none
 | f+1,x,acc=>
  if x=[] then some acc
  else if x.head?=some 34 then none
  else if (charP (x++[34])).1=-1∨x.length<(charP (x++[34])).2 then none
  else rA f (x.drop (charP (x++[34])).2) (acc++[(charP (x++[34])).1])
end Go.Proofs.Le
end
section
namespace Go.Proofs.Le
open Go.Proofs.Lw
def SimB (c:UInt8):Prop:=c=34∨c=92∨c=47∨c=98∨c=102∨c=110∨c=114∨c=116
def HexB (c:UInt8):Prop:=48≤c.toNat∧c.toNat≤57∨97≤c.toNat∧c.toNat≤102∨65≤c.toNat∧c.toNat≤70
inductive Sx:Int→List UInt8→Prop
 | mark:Sx 0 [34]
 | esc (c:UInt8) (l:List UInt8):SimB c→Sx 0 l→Sx 0 (92::c::l)
 | uni (a b c d:UInt8) (l:List UInt8):HexB a→HexB b→HexB c→HexB d→Sx 0 l→Sx 0 (92::117::a::b::c::d::l)
 | byte (st:Int) (c:UInt8) (l:List UInt8):(st=0→32≤c.toNat∧c≠34∧c≠92)→ustep st c.toNat≠8→Sx (ustep st c.toNat) l→Sx st (c::l)
end Go.Proofs.Le
end
section
namespace Go.Proofs.Le
open Go.Proofs.Lw
def unB (c:Int):List UInt8:=if 65535<c then putL c else [92,117,hexd (c / 4096).toNat,hexd (c / 256 % 16).toNat,hexd (c / 16 % 16).toNat,hexd (c % 16).toNat]
def unS:List Int→List UInt8
 | []=>[]
 | c::L=>unB c++unS L
end Go.Proofs.Le
end
section
namespace Go.Proofs.Le
open Go.Proofs.Lw
inductive Mx:List UInt8→Prop
 | mark:Mx [34]
 | skip (c:UInt8) (l:List UInt8):Mx l→Mx (92::c::l)
 | byte (c:UInt8) (l:List UInt8):c≠34→c≠92→Mx l→Mx (c::l)
end Go.Proofs.Le
end
namespace Go.Proofs.YtjcioljdlfdnbaaGreatDoor
section
open Go.RowKit
theorem Oth.trans{a b c:World}{p g:Nat}(h:Oth a b p g)(k:Oth b c p g): Oth a c p g:=
 ⟨Nat.le_trans h.size k.size,fun q hq h1 h2=>(k.cell q (Nat.lt_of_lt_of_le hq h.size) h1 h2).trans (h.cell q hq h1 h2),fun q hq h1 h2=>(k.froz q (Nat.lt_of_lt_of_le hq h.size) h1 h2).trans (h.froz q hq h1 h2),fun B b1 b2 b3=>(h.bel B b1 b2 b3).trans (k.bel B b1 b2 (Nat.le_trans b3 h.size))⟩
theorem Oth.below{a b:World}(p g:Nat)(h:Below a.heap.size a b): Oth a b p g:=⟨h.size,fun q hq _ _=>h.cell hq,fun q hq _ _=>h.frozen hq,fun B _ _ b3=>h.mono b3⟩
theorem Oth.setP(w:World)(p g i:Nat)(v:Value): Oth w (w.setCell ⟨p,i,none⟩ v) p g:=
 ⟨by simp [World.setCell],fun q _ h1 _=>qO (by rintro rfl;exact h1 rfl),fun q _ _ _=>qF,fun B b1 _ _=>(Below.refl B w).setCell (p:=⟨p,i,none⟩) b1 v⟩
theorem Oth.setG(w:World)(p g i:Nat)(v:Value): Oth w (w.setCell ⟨g,i,none⟩ v) p g:=
 ⟨by simp [World.setCell],fun q _ _ h1=>qO (by rintro rfl;exact h1 rfl),fun q _ _ _=>qF,fun B _ b2 _=>(Below.refl B w).setCell (p:=⟨g,i,none⟩) b2 v⟩
theorem Oth.new{w w':World}{p g:Nat}(h:Oth w w' p g)(hg:w.heap.size≤g): Oth w w' p p:=
 ⟨h.size,fun q hq h1 _=>h.cell q hq h1 oM,fun q hq h1 _=>h.froz q hq h1 oM,fun B b1 b2 b3=>h.bel B b1 oM b3⟩
theorem Oth.drewN(w:World)(p g m:Nat): Oth w (w.drewN m) p g:=Oth.below p g (below_drewN' qR m)
structure Sc (s:ByteArray) (k:Nat) (sl:Value) (d m:Int) (g:Nat) (W:World):Prop where
 lt:g<W.heap.size
 c0:W.cell? ⟨g,0,none⟩=some (.string s)
 c1:W.cell? ⟨g,1,none⟩=some (.int .i64 (k:Nat))
 c2:W.cell? ⟨g,2,none⟩=some (sl)
 c3:W.cell? ⟨g,3,none⟩=some (.int .i64 d)
 c4:W.cell? ⟨g,4,none⟩=some (.int .i64 m)
 z1:W.frozen? ⟨g,1,none⟩=false
 z2:W.frozen? ⟨g,2,none⟩=false
 z3:W.frozen? ⟨g,3,none⟩=false
 z4:W.frozen? ⟨g,4,none⟩=false
theorem Sc.of{W W':World}{g:Nat}{s:ByteArray}{k:Nat}{sl:Value}{d m:Int}(h:Sc s k sl d m g W)(hs:W.heap.size≤W'.heap.size)(hc:∀c,W'.cell? ⟨g,c,none⟩=W.cell? ⟨g,c,none⟩)(hf:∀c,W'.frozen? ⟨g,c,none⟩=W.frozen? ⟨g,c,none⟩): Sc s k sl d m g W':=⟨Nat.lt_of_lt_of_le h.lt hs,(hc 0).trans h.c0,(hc 1).trans h.c1,(hc 2).trans h.c2,(hc 3).trans h.c3,(hc 4).trans h.c4,(hf 1).trans h.z1,(hf 2).trans h.z2,(hf 3).trans h.z3,(hf 4).trans h.z4⟩
theorem Sc.below{W W':World}{g:Nat}{s:ByteArray}{k:Nat}{sl:Value}{d m:Int}(h:Sc s k sl d m g W)(hb:Below W.heap.size W W'): Sc s k sl d m g W':=h.of hb.size (fun c=>hb.cell (p:=⟨g,c,none⟩) h.lt) (fun c=>hb.frozen (p:=⟨g,c,none⟩) h.lt)
theorem Sc.set{W:World}{g:Nat}{s:ByteArray}{k:Nat}{sl:Value}{d m:Int}(h:Sc s k sl d m g W){a:Addr}(hne:a.block≠g)(v:Value): Sc s k sl d m g (W.setCell a v):=h.of (by simp [World.setCell]) (fun c=>qO (by intro e;exact hne (by rw [e]))) (fun c=>qF)
theorem Sc.setK{W:World}{g:Nat}{s:ByteArray}{k:Nat}{sl:Value}{d m:Int}(h:Sc s k sl d m g W)(k':Nat): Sc s k' sl d m g (W.setCell ⟨g,1,none⟩ (.int .i64 (k':Nat))):=⟨by simpa [World.setCell] using h.lt,(qO tq9).trans h.c0,World.cell?_setCell_same' _ _ _ (by rw [h.c1];rfl),(qO tq9).trans h.c2,(qO tq9).trans h.c3,(qO tq9).trans h.c4,qF.trans h.z1,qF.trans h.z2,qF.trans h.z3,qF.trans h.z4⟩
theorem Sc.setS{W:World}{g:Nat}{s:ByteArray}{k:Nat}{sl:Value}{d m:Int}(h:Sc s k sl d m g W)(sl':Value): Sc s k sl' d m g (W.setCell ⟨g,2,none⟩ (sl')):=⟨by simpa [World.setCell] using h.lt,(qO tq9).trans h.c0,(qO tq9).trans h.c1,World.cell?_setCell_same' _ _ _ (by rw [h.c2];rfl),(qO tq9).trans h.c3,(qO tq9).trans h.c4,qF.trans h.z1,qF.trans h.z2,qF.trans h.z3,qF.trans h.z4⟩
theorem Sc.setD{W:World}{g:Nat}{s:ByteArray}{k:Nat}{sl:Value}{d m:Int}(h:Sc s k sl d m g W)(d':Int): Sc s k sl d' m g (W.setCell ⟨g,3,none⟩ (.int .i64 d')):=⟨by simpa [World.setCell] using h.lt,(qO tq9).trans h.c0,(qO tq9).trans h.c1,(qO tq9).trans h.c2,World.cell?_setCell_same' _ _ _ (by rw [h.c3];rfl),(qO tq9).trans h.c4,qF.trans h.z1,qF.trans h.z2,qF.trans h.z3,qF.trans h.z4⟩
theorem Sc.setM{W:World}{g:Nat}{s:ByteArray}{k:Nat}{sl:Value}{d m:Int}(h:Sc s k sl d m g W)(m':Int): Sc s k sl d m' g (W.setCell ⟨g,4,none⟩ (.int .i64 m')):=⟨by simpa [World.setCell] using h.lt,(qO tq9).trans h.c0,(qO tq9).trans h.c1,(qO tq9).trans h.c2,(qO tq9).trans h.c3,World.cell?_setCell_same' _ _ _ (by rw [h.c4];rfl),qF.trans h.z1,qF.trans h.z2,qF.trans h.z3,qF.trans h.z4⟩
theorem Sc.drewN{W:World}{g:Nat}{s:ByteArray}{k:Nat}{sl:Value}{d m:Int}(h:Sc s k sl d m g W)(n:Nat): Sc s k sl d m g (W.drewN n):=h.below (below_drewN' qR n)
theorem Sc.drew{W:World}{g:Nat}{s:ByteArray}{k:Nat}{sl:Value}{d m:Int}(h:Sc s k sl d m g W): Sc s k sl d m g W.drew:=h.below qR.drew
structure St (g:Nat) (W:World):Prop where
 lt:g<W.heap.size
 c:W.cell? ⟨g,0,none⟩=some (.int .u64 0)
 z:W.frozen? ⟨g,0,none⟩=false
theorem St.below{g:Nat}{W W':World}(h:St g W)(hb:Below W.heap.size W W'): St g W':=⟨Nat.lt_of_lt_of_le h.lt hb.size,(hb.cell (p:=⟨g,0,none⟩) h.lt).trans h.c,(hb.frozen (p:=⟨g,0,none⟩) h.lt).trans h.z⟩
theorem St.drewN{g:Nat}{W:World}(h:St g W)(n:Nat): St g (W.drewN n):=h.below (below_drewN' qR n)
theorem St.drew{g:Nat}{W:World}(h:St g W): St g W.drew:=h.below qR.drew
theorem St.set{g:Nat}{W:World}(h:St g W){q:Addr}(hq:q.block≠g)(v:Value): St g (W.setCell q v):=⟨by simpa [World.setCell] using h.lt,(qO (by rintro rfl;exact hq rfl)).trans h.c,qF.trans h.z⟩
theorem St.own{g:Nat}{W:World}(h:St g W): St g (W.setCell ⟨g,0,none⟩ (.int .u64 0)):=⟨by simpa [World.setCell] using h.lt,World.cell?_setCell_same' _ _ _ (by rw [h.c];rfl),qF.trans h.z⟩
theorem St.oth{g x:Nat}{W W':World}(h:St g W)(hb:Oth W W' x x)(hx:g≠x): St g W':=⟨Nat.lt_of_lt_of_le h.lt hb.size,(hb.cell ⟨g,0,none⟩ h.lt hx hx).trans h.c,(hb.froz ⟨g,0,none⟩ h.lt hx hx).trans h.z⟩
def Sto (w:World) (v:Value) (s:ByteArray) (k:Nat) (sl:Value) (d m:Int) (x:Nat) (e:Ending) (w':World):Prop:=e=.returned v∧Sc s k sl d m x w'∧Oth w w' x x
theorem ixb_none: ∀(l:List UInt8) (c:UInt8),l.contains c=false→Lib.indexByte l c=-1
 | [],_,_=>rfl
 | b::l,c,h=>by
  rw [List.contains_cons,Bool.or_eq_false_iff] at h
  have hb:¬(b==c)=true:=by intro e;rw [beq_iff_eq] at e;subst e;simp at h
  rw [Lib.indexByte,if_neg hb,ixb_none l c h.2];rfl
theorem ixb_no(b:UInt8)(t:ByteArray)(h:t.data.toList.contains b=false)(w:World): Calls prog 128 #[.string t,.int .u8 (b.toNat:Nat)] w fun e w'=>e=.returned (.int .i64 (-1))∧w=w':=by
 have h2:=Tryz.strings_IndexByte t (b.toNat:Nat) w
 rw [show ((b.toNat:Nat):Int).toNat.toUInt8=b by simp] at h2
 rw [show Lib.indexByte t.data.toList b=-1 by exact ixb_none _ _ h] at h2
 exact h2.mono fun e w' ⟨a,b⟩ =>⟨a,b.symm⟩
theorem Acc.fz{w0 w:World}{e:TypeId}{size:Nat}{g cap n:Nat}{xs:List Value}(h:Acc w0 w e size (.slice (some ⟨g,0,none⟩) (n+1) cap) (n+1) xs)(j:Nat): w.frozen? ⟨g,j,none⟩=false:=by
 rcases h.own.2 with ⟨hv,h0⟩|⟨g',cap',cur,hv,hb,hg,_,_,hs,hx⟩
 ·omega
 ·injection hv with hv _ _
  injection hv with hv
  injection hv with hv _ _
  subst hv
  simp [World.frozen?,hg]
abbrev escs:ByteArray:=⟨#[34,92,47,98,102,110,114,116,117]⟩
theorem blk_no(b:UInt8)(c:Int)(hc:((b.toNat:Nat):Int)=c)(h:c≠32∧c≠9∧c≠10∧c≠13): blk.data.toList.contains b=false:=by
 obtain ⟨h1,h2,h3,h4⟩ :=h
 have e1:b≠32:=by rintro rfl;exact h1 (by rw [←hc];rfl)
 have e2:b≠9:=by rintro rfl;exact h2 (by rw [←hc];rfl)
 have e3:b≠10:=by rintro rfl;exact h3 (by rw [←hc];rfl)
 have e4:b≠13:=by rintro rfl;exact h4 (by rw [←hc];rfl)
 simp [e1,e2,e3,e4]
theorem next_v(s:ByteArray)(k:Nat)(sl:Value)(d m:Int)(c:Int)(x:Nat)(hs:s.size≤100000)(hk:k<s.size)(hc:((s[k]'hk).toNat:Int)=c)(w:World)(h:Sc s k sl d m x w): Calls prog 130 #[.pointer (some ⟨x,0,none⟩)] w fun e w'=>e=.returned (.int .u8 c)∧∃n,w'=w.drewN n:=by
 have:(k:Int)<(s.size:Int):=oM
 go_enter func130,ntmps130
 have xlt:=h.lt
 have:x<w.heap.size+1:=oM
 have:x<w.heap.size+1+1:=oM
 have:x<w.heap.size+1+1+1:=oM
 have x0:=h.c0
 have x1:=h.c1
 have x2:=h.c2
 have x3:=h.c3
 have x4:=h.c4
 have xz1:=h.z1
 have xz2:=h.z2
 have xz3:=h.z3
 have xz4:=h.z4
 go_wp2_with fail
 go_quiet (fail)
 go_wp2_with fail
 go_quiet (fail)
 go_wp2_with fail
 go_ret
 exact ⟨rfl,_,World.drewN_drewN _ _ _⟩
theorem blanks_v(s:ByteArray)(k:Nat)(sl:Value)(d m:Int)(c:Int)(x:Nat)(hs:s.size≤100000)(hk:k<s.size)(hc:((s[k]'hk).toNat:Int)=c)(hb:c≠32∧c≠9∧c≠10∧c≠13)(w:World)(h:Sc s k sl d m x w): Calls prog 129 #[.pointer (some ⟨x,0,none⟩)] w fun e w'=>e=.returned (.tuple #[])∧∃n,w'=w.drewN n:=by
 have:(k:Int)<(s.size:Int):=oM
 have:decide (k<s.size)=true:=by simpa using hk
 have hI:=ixb_no (s[k]'hk) blk (blk_no _ c hc hb)
 rw [hc] at hI
 go_enter func129,ntmps129
 have xlt:=h.lt
 have:x<w.heap.size+1:=oM
 have:x<w.heap.size+1+1:=oM
 have:x<w.heap.size+1+1+1:=oM
 have x0:=h.c0
 have x1:=h.c1
 have x2:=h.c2
 have x3:=h.c3
 have x4:=h.c4
 have xz1:=h.z1
 have xz2:=h.z2
 have xz3:=h.z3
 have xz4:=h.z4
 go_wp2_with (first|(refine wp_loop_unr 2 ?_;refine Unr.step ?_;intro U hU)|(refine Unr.step ?_;intro U hU))
 go_quiet ((first|(go_at_call 128;exact quiet_mine (hI _))))
 go_wp2_with fail
 exact bodyPost_end (v:=.tuple #[]) (by simp [results,results129,go_sem]) rfl ⟨rfl,_,rfl⟩
theorem blanks_e(s:ByteArray)(k:Nat)(sl:Value)(d m:Int)(x:Nat)(hs:s.size≤100000)(hk:k=s.size)(w:World)(h:Sc s k sl d m x w): Calls prog 129 #[.pointer (some ⟨x,0,none⟩)] w fun e w'=>e=.returned (.tuple #[])∧∃n,w'=w.drewN n:=by
 subst hk
 have:decide (s.size<s.size)=false:=by simp
 go_enter func129,ntmps129
 have xlt:=h.lt
 have:x<w.heap.size+1:=oM
 have:x<w.heap.size+1+1:=oM
 have:x<w.heap.size+1+1+1:=oM
 have x0:=h.c0
 have x1:=h.c1
 have x2:=h.c2
 have x3:=h.c3
 have x4:=h.c4
 have xz1:=h.z1
 have xz2:=h.z2
 have xz3:=h.z3
 have xz4:=h.z4
 go_wp2_with (first|(refine wp_loop_unr 2 ?_;refine Unr.step ?_;intro U hU)|(refine Unr.step ?_;intro U hU))
 go_quiet (fail)
 go_wp2_with fail
 exact bodyPost_end (v:=.tuple #[]) (by simp [results,results129,go_sem]) rfl ⟨rfl,_,rfl⟩
theorem pop_1(s:ByteArray)(k:Nat)(sl:Value)(m:Int)(x:Nat)(hs:s.size≤100000)(hk:k<s.size)(w:World)(h:Sc s k sl 1 m x w): Calls prog 135 #[.pointer (some ⟨x,0,none⟩)] w fun e w'=>Sto w (.tuple #[]) s (k+1) sl 0 m x e w':=by
 go_enter func135,ntmps135
 have xlt:=h.lt
 have:x<w.heap.size+1:=oM
 have:x<w.heap.size+1+1:=oM
 have:x<w.heap.size+1+1+1:=oM
 have x0:=h.c0
 have x1:=h.c1
 have x2:=h.c2
 have x3:=h.c3
 have x4:=h.c4
 have xz1:=h.z1
 have xz2:=h.z2
 have xz3:=h.z3
 have xz4:=h.z4
 go_wp2_with fail
 exact bodyPost_end (v:=.tuple #[]) (by simp [results,results135,go_sem]) rfl ⟨rfl,(h.setD 0).setK (k+1),(Oth.setP _ _ _ _ _).trans (Oth.setP _ _ _ _ _)⟩
theorem object_0(s:ByteArray)(k g c:Nat)(m:Int)(x:Nat)(w:World)(h:Sc s k (.slice (some ⟨g,0,none⟩) 1 c) 1 m x w)(hg:St g w): Calls prog 136 #[.pointer (some ⟨x,0,none⟩)] w fun e w'=>e=.returned (.bool false)∧∃n,w'=w.drewN n:=by
 have gl:=hg.lt
 have gc:=hg.c
 go_enter func136,ntmps136
 have xlt:=h.lt
 have:x<w.heap.size+1:=oM
 have:x<w.heap.size+1+1:=oM
 have:x<w.heap.size+1+1+1:=oM
 have x0:=h.c0
 have x1:=h.c1
 have x2:=h.c2
 have x3:=h.c3
 have x4:=h.c4
 have xz1:=h.z1
 have xz2:=h.z2
 have xz3:=h.z3
 have xz4:=h.z4
 go_wp2_with fail
 go_quiet (fail)
 go_wp2_with fail
 go_ret
 exact ⟨rfl,_,rfl⟩
theorem push_0(s:ByteArray)(k:Nat)(x:Nat)(hs:s.size≤100000)(hk:k<s.size)(w:World)(h:Sc s k (.slice none 0 0) 0 0 x w): Calls prog 131 #[.pointer (some ⟨x,0,none⟩),.bool false] w fun e w'=>∃g c,Sto w (.tuple #[]) s (k+1) (.slice (some ⟨g,0,none⟩) 1 c) 1 1 x e w'∧St g w'∧w.heap.size≤g:=by
 obtain ⟨i0,hi0,hz0,hs0,hb0⟩ :=info_parts info105
 go_enter func131,ntmps131
 have xlt:=h.lt
 have xlt1:x<w.heap.size+1:=oM
 have xlt2:x<w.heap.size+1+1:=oM
 have xlt3:x<w.heap.size+1+1+1:=oM
 have x0:=h.c0
 have x1:=h.c1
 have x2:=h.c2
 have x3:=h.c3
 have x4:=h.c4
 have xz1:=h.z1
 have xz2:=h.z2
 have xz3:=h.z3
 have xz4:=h.z4
 go_wp2_with fail
 go_quiet (fail)
 go_wp2_with (first|(at_builtin;refine wpList_push rfl _ _ 146 rfl 200 i0 _ 1 8 underlying146 hi0 hz0 hs0 hb0 rfl oM (Acc.nil qR 200 1) rfl rfl sM rfl rfl oM oM ?_;intro g c w3 hA;have hb3:=hA.bel;have H3:=(h.drewN _).below hb3;have hr:=hA.row;have hG:St g w3:=⟨hr.2.1,hr.2.2 0 _ rfl,hA.fz 0⟩;have hl:=hr.1;simp at hl;have hgx:¬g=x:=oM;have hxg:¬x=g:=oM;clear xlt xlt1 xlt2 xlt3 x0 x1 x2 x3 x4 xz1 xz2 xz3 xz4;have xlt:=H3.lt;have xlt1:x<w3.heap.size+1:=oM;have xlt2:x<w3.heap.size+1+1:=oM;have xlt3:x<w3.heap.size+1+1+1:=oM;have x0:=H3.c0;have x1:=H3.c1;have x2:=H3.c2;have x3:=H3.c3;have x4:=H3.c4;have xz1:=H3.z1;have xz2:=H3.z2;have xz3:=H3.z3;have xz4:=H3.z4;have gc:=hG.c;have gz:=hG.z;have gl:=hG.lt))
 go_quiet (fail)
 go_wp2_with fail
 go_region
 go_wp2_with fail
 go_region
 go_wp2_with fail
 have ha:bits .andNot .u64 0 1=0:=by decide
 rw [ha]
 exact bodyPost_end (v:=.tuple #[]) (by simp [results,results131,go_sem]) rfl ⟨g,c,⟨rfl,((((((H3.setS _).drewN _).set (a:=⟨g,0,none⟩) hgx _).setD 1).setM 1).setK (k+1)).drew,(((((((((Oth.drewN w x g _).trans (Oth.below x g hb3)).trans (Oth.setP _ x g 2 _)).trans (Oth.drewN _ x g _)).trans (Oth.setG _ x g 0 _)).trans (Oth.setP _ x g 3 _)).trans (Oth.setP _ x g 4 _)).trans (Oth.setP _ x g 1 _)).trans (Oth.below x g qR.drew)).new hl⟩,(((((hG.set (q:=⟨x,2,none⟩) hxg _).drewN _).own.set (q:=⟨x,3,none⟩) hxg _).set (q:=⟨x,4,none⟩) hxg _).set (q:=⟨x,1,none⟩) hxg _).drew,hl⟩
end
section
open Go.RowKit
open Go.Proofs.Le
theorem drop_at(s:ByteArray)(j:Nat)(c:UInt8)(y:List UInt8)(h:s.data.toList.drop j=c::y): ∃hj:j<s.size,s[j]'hj=c∧s.data.toList.drop (j+1)=y:=by
 have hl:j<s.data.toList.length:=by
  rcases Nat.lt_or_ge j s.data.toList.length with h1|h1
  ·exact h1
  ·rw [List.drop_eq_nil_of_le h1] at h;simp at h
 rw [List.drop_eq_getElem_cons hl] at h
 injection h with h1 h2
 exact ⟨by rw [Lib.size_eq];exact hl,h1,h2⟩
end
section
open Go.RowKit
open Go.Proofs.Le Go.Proofs.Lw
open Tx
end
section
open Go.RowKit
open Go.Proofs.Le Go.Proofs.Lw
def LfS (T:ByteArray) (L:Nat):Prop:=∀(sl:Value) (d m:Int) (x:Nat) (W:World),Sc T 1 sl d m x W→Calls prog 132 #[.pointer (some ⟨x,0,none⟩)] W fun e w'=>Sto W (.bool true) T L sl d m x e w'
abbrev n5:ByteArray:=⟨#[91,53,93]⟩
theorem n5_1(h:1<n5.size): ((n5[1]'h).toNat:Int)=53:=rfl
theorem n5_2(h:2<n5.size): ((n5[2]'h).toNat:Int)=93:=rfl
theorem n5_s: n5.size≤100000:=by decide
theorem digits_5(sl:Value)(d m:Int)(x:Nat)(w:World)(h:Sc n5 1 sl d m x w): Calls prog 262 #[.pointer (some ⟨x,0,none⟩)] w fun e w'=>Sto w (.bool true) n5 2 sl d m x e w':=by
 go_enter func262,ntmps262
 have xlt:=h.lt
 have xlt1:x<w.heap.size+1:=oM
 have xlt2:x<w.heap.size+1+1:=oM
 have xlt3:x<w.heap.size+1+1+1:=oM
 have x0:=h.c0
 have x1:=h.c1
 have x2:=h.c2
 have x3:=h.c3
 have x4:=h.c4
 have xz1:=h.z1
 have xz2:=h.z2
 have xz3:=h.z3
 have xz4:=h.z4
 go_wp2_with fail
 refine (next_v n5 1 sl d m 53 x n5_s (by decide) (n5_1 _) _ h).mono ?_;rintro e w1 ⟨rfl,m1,hw⟩
 have S1:Sc n5 (1) sl d m x w1:=by rw [hw];exact Sc.drewN h _
 have O1:Oth w w1 x x:=by rw [hw];exact Oth.trans (Oth.refl w x x) (Oth.drewN _ _ _ _)
 clear hw
 clear xlt xlt1 xlt2 xlt3 x0 x1 x2 x3 x4 xz1 xz2 xz3 xz4
 have xlt:=S1.lt
 have xlt1:x<w1.heap.size+1:=oM
 have xlt2:x<w1.heap.size+1+1:=oM
 have xlt3:x<w1.heap.size+1+1+1:=oM
 have x0:=S1.c0
 have x1:=S1.c1
 have x2:=S1.c2
 have x3:=S1.c3
 have x4:=S1.c4
 have xz1:=S1.z1
 have xz2:=S1.z2
 have xz3:=S1.z3
 have xz4:=S1.z4
 go_wp2_with (first|(refine wp_loop_unr 4 ?_;refine Unr.step ?_;intro U hU)|(refine Unr.step ?_;intro U hU))
 generalize hW:World.setCell _ _ _=W
 have S5:Sc n5 2 sl d m x W:=by rw [←hW];exact Sc.setK S1 2
 have O5:Oth w W x x:=by rw [←hW];exact Oth.trans O1 (Oth.setP _ _ _ _ _)
 clear hW
 clear xlt xlt1 xlt2 xlt3 x0 x1 x2 x3 x4 xz1 xz2 xz3 xz4
 refine (next_v n5 2 sl d m 93 x n5_s (by decide) (n5_2 _) _ S5).mono ?_;rintro e w6 ⟨rfl,m6,hw⟩
 have S6:Sc n5 (2) sl d m x w6:=by rw [hw];exact Sc.drewN S5 _
 have O6:Oth w w6 x x:=by rw [hw];exact Oth.trans O5 (Oth.drewN _ _ _ _)
 clear hw
 have xlt:=S6.lt
 have xlt1:x<w6.heap.size+1:=oM
 have xlt2:x<w6.heap.size+1+1:=oM
 have xlt3:x<w6.heap.size+1+1+1:=oM
 have x0:=S6.c0
 have x1:=S6.c1
 have x2:=S6.c2
 have x3:=S6.c3
 have x4:=S6.c4
 have xz1:=S6.z1
 have xz2:=S6.z2
 have xz3:=S6.z3
 have xz4:=S6.z4
 go_wp2_with (first|(refine wp_loop_unr 4 ?_;refine Unr.step ?_;intro U hU)|(refine Unr.step ?_;intro U hU))
 go_ret
 exact ⟨rfl,S6,O6⟩
theorem number_5(sl:Value)(d m:Int)(x:Nat)(w:World)(h:Sc n5 1 sl d m x w): Calls prog 198 #[.pointer (some ⟨x,0,none⟩)] w fun e w'=>Sto w (.bool true) n5 2 sl d m x e w':=by
 go_enter func198,ntmps198
 go_wp2_with fail
 refine (next_v n5 1 sl d m 53 x n5_s (by decide) (n5_1 _) _ h).mono ?_;rintro e w1 ⟨rfl,m1,hw⟩
 have S1:Sc n5 (1) sl d m x w1:=by rw [hw];exact Sc.drewN h _
 have O1:Oth w w1 x x:=by rw [hw];exact Oth.trans (Oth.refl w x x) (Oth.drewN _ _ _ _)
 clear hw
 go_wp2_with fail
 refine (next_v n5 1 sl d m 53 x n5_s (by decide) (n5_1 _) _ S1).mono ?_;rintro e w2 ⟨rfl,m2,hw⟩
 have S2:Sc n5 (1) sl d m x w2:=by rw [hw];exact Sc.drewN S1 _
 have O2:Oth w w2 x x:=by rw [hw];exact Oth.trans O1 (Oth.drewN _ _ _ _)
 clear hw
 go_wp2_with fail
 refine (digits_5 sl d m x _ S2).mono ?_;rintro e w3 ⟨rfl,S3,P3⟩
 have O3:Oth w w3 x x:=Oth.trans O2 P3
 go_wp2_with fail
 refine (next_v n5 2 sl d m 93 x n5_s (by decide) (n5_2 _) _ S3).mono ?_;rintro e w4 ⟨rfl,m4,hw⟩
 have S4:Sc n5 (2) sl d m x w4:=by rw [hw];exact Sc.drewN S3 _
 have O4:Oth w w4 x x:=by rw [hw];exact Oth.trans O3 (Oth.drewN _ _ _ _)
 clear hw
 go_wp2_with fail
 refine (next_v n5 2 sl d m 93 x n5_s (by decide) (n5_2 _) _ S4).mono ?_;rintro e w5 ⟨rfl,m5,hw⟩
 have S5:Sc n5 (2) sl d m x w5:=by rw [hw];exact Sc.drewN S4 _
 have O5:Oth w w5 x x:=by rw [hw];exact Oth.trans O4 (Oth.drewN _ _ _ _)
 clear hw
 go_wp2_with fail
 go_ret
 exact ⟨rfl,S5,O5⟩
theorem lf5(sl:Value)(d m:Int)(x:Nat)(w:World)(h:Sc n5 1 sl d m x w): Calls prog 132 #[.pointer (some ⟨x,0,none⟩)] w fun e w'=>Sto w (.bool true) n5 2 sl d m x e w':=by
 go_enter func132,ntmps132
 go_wp2_with fail
 refine (next_v n5 1 sl d m 53 x n5_s (by decide) (n5_1 _) _ h).mono ?_;rintro e w1 ⟨rfl,m1,hw⟩
 have S1:Sc n5 (1) sl d m x w1:=by rw [hw];exact Sc.drewN h _
 have O1:Oth w w1 x x:=by rw [hw];exact Oth.trans (Oth.refl w x x) (Oth.drewN _ _ _ _)
 clear hw
 go_wp2_with fail
 refine (number_5 sl d m x _ S1).mono ?_;rintro e w2 ⟨rfl,S2,P2⟩
 have O2:Oth w w2 x x:=Oth.trans O1 P2
 go_wp2_with fail
 go_ret
 exact ⟨rfl,S2,O2⟩
theorem lfS_5: LfS n5 2:=fun sl d m x W h=>lf5 sl d m x W h
theorem text_1(T:ByteArray)(n L:Nat)(hn:T.size=n)(hL:L+1=n)(h3:3≤n)(h1:n<1024)(k0:0<T.size)(k1:1<T.size)(kL:L<T.size)(c:Int)(c0:((T[0]'k0).toNat:Int)=91)(c1:((T[1]'k1).toNat:Int)=c)(cL:((T[L]'kL).toNat:Int)=93)(hc:c≠32∧c≠9∧c≠10∧c≠13)(hc2:c≠91∧c≠93∧c≠123)(hLf:LfS T L)(x:Nat)(w:World)(h:Sc T 0 (.slice none 0 0) 0 0 x w): Calls prog 65 #[.pointer (some ⟨x,0,none⟩)] w fun e w'=>∃g cc,Sto w (.bool true) T n (.slice (some ⟨g,0,none⟩) 1 cc) 0 1 x e w':=by
 have hs:T.size≤100000:=oM
 have:(c==91)=false:=by rw [beq_eq_false_iff_ne];exact hc2.1
 have:(c==93)=false:=by rw [beq_eq_false_iff_ne];exact hc2.2.1
 have:(c==123)=false:=by rw [beq_eq_false_iff_ne];exact hc2.2.2
 have HN:=hid hn
 have HL:=hid hL
 clear hn hL hc2
 go_enter func65,ntmps65
 go_wp2_with (first|(refine wp_scope_lab 8 ?_;intro K hK)|(refine Lab.step _ rfl ?_;intro K hK)|(refine hK _ _ _ ?_;refine Lab.step _ rfl ?_;intro K hK)|simp only [jumps_goto,jumps_ret,jumps_normal]|simp only [Exit.then,Exit.inBlock,jumps_goto,jumps_ret,jumps_normal]|go_step3)
 refine (blanks_v T 0 (.slice none 0 0) 0 0 91 x hs k0 c0 (by decide) _ h).mono ?_;rintro e w1 ⟨rfl,m1,hw⟩
 have S1:Sc T (0) (.slice none 0 0) 0 0 x w1:=by rw [hw];exact Sc.drewN h _
 have O1:Oth w w1 x x:=by rw [hw];exact Oth.trans (Oth.refl w x x) (Oth.drewN _ _ _ _)
 clear hw
 go_wp2_with (first|(refine wp_scope_lab 8 ?_;intro K hK)|(refine Lab.step _ rfl ?_;intro K hK)|(refine hK _ _ _ ?_;refine Lab.step _ rfl ?_;intro K hK)|simp only [jumps_goto,jumps_ret,jumps_normal]|simp only [Exit.then,Exit.inBlock,jumps_goto,jumps_ret,jumps_normal]|go_step3)
 refine (next_v T 0 (.slice none 0 0) 0 0 91 x hs k0 c0 _ S1).mono ?_;rintro e w2 ⟨rfl,m2,hw⟩
 have S2:Sc T (0) (.slice none 0 0) 0 0 x w2:=by rw [hw];exact Sc.drewN S1 _
 have O2:Oth w w2 x x:=by rw [hw];exact Oth.trans O1 (Oth.drewN _ _ _ _)
 clear hw
 go_wp2_with (first|(refine wp_scope_lab 8 ?_;intro K hK)|(refine Lab.step _ rfl ?_;intro K hK)|(refine hK _ _ _ ?_;refine Lab.step _ rfl ?_;intro K hK)|simp only [jumps_goto,jumps_ret,jumps_normal]|simp only [Exit.then,Exit.inBlock,jumps_goto,jumps_ret,jumps_normal]|go_step3)
 refine (push_0 T 0 x hs k0 _ S2).mono ?_;rintro e w3 ⟨g,cc,⟨rfl,S3,P3⟩,G3,hg⟩
 have O3:Oth w w3 x x:=Oth.trans O2 P3
 have hgx:g≠x:=by have:=S2.lt;omega
 go_wp2_with (first|(refine wp_scope_lab 8 ?_;intro K hK)|(refine Lab.step _ rfl ?_;intro K hK)|(refine hK _ _ _ ?_;refine Lab.step _ rfl ?_;intro K hK)|simp only [jumps_goto,jumps_ret,jumps_normal]|simp only [Exit.then,Exit.inBlock,jumps_goto,jumps_ret,jumps_normal]|go_step3)
 refine (blanks_v T 1 (.slice (some ⟨g,0,none⟩) 1 cc) 1 1 c x hs k1 c1 hc _ S3).mono ?_;rintro e w4 ⟨rfl,m4,hw⟩
 have S4:Sc T (1) (.slice (some ⟨g,0,none⟩) 1 cc) 1 1 x w4:=by rw [hw];exact Sc.drewN S3 _
 have O4:Oth w w4 x x:=by rw [hw];exact Oth.trans O3 (Oth.drewN _ _ _ _)
 have G4:St g w4:=by rw [hw];exact St.drewN G3 _
 clear hw
 go_wp2_with (first|(refine wp_scope_lab 8 ?_;intro K hK)|(refine Lab.step _ rfl ?_;intro K hK)|(refine hK _ _ _ ?_;refine Lab.step _ rfl ?_;intro K hK)|simp only [jumps_goto,jumps_ret,jumps_normal]|simp only [Exit.then,Exit.inBlock,jumps_goto,jumps_ret,jumps_normal]|go_step3)
 refine (next_v T 1 (.slice (some ⟨g,0,none⟩) 1 cc) 1 1 c x hs k1 c1 _ S4).mono ?_;rintro e w5 ⟨rfl,m5,hw⟩
 have S5:Sc T (1) (.slice (some ⟨g,0,none⟩) 1 cc) 1 1 x w5:=by rw [hw];exact Sc.drewN S4 _
 have O5:Oth w w5 x x:=by rw [hw];exact Oth.trans O4 (Oth.drewN _ _ _ _)
 have G5:St g w5:=by rw [hw];exact St.drewN G4 _
 clear hw
 go_wp2_with (first|(refine wp_scope_lab 8 ?_;intro K hK)|(refine Lab.step _ rfl ?_;intro K hK)|(refine hK _ _ _ ?_;refine Lab.step _ rfl ?_;intro K hK)|simp only [jumps_goto,jumps_ret,jumps_normal]|simp only [Exit.then,Exit.inBlock,jumps_goto,jumps_ret,jumps_normal]|go_step3)
 refine (blanks_v T 1 (.slice (some ⟨g,0,none⟩) 1 cc) 1 1 c x hs k1 c1 hc _ S5).mono ?_;rintro e w6 ⟨rfl,m6,hw⟩
 have S6:Sc T (1) (.slice (some ⟨g,0,none⟩) 1 cc) 1 1 x w6:=by rw [hw];exact Sc.drewN S5 _
 have O6:Oth w w6 x x:=by rw [hw];exact Oth.trans O5 (Oth.drewN _ _ _ _)
 have G6:St g w6:=by rw [hw];exact St.drewN G5 _
 clear hw
 go_wp2_with (first|(refine wp_scope_lab 8 ?_;intro K hK)|(refine Lab.step _ rfl ?_;intro K hK)|(refine hK _ _ _ ?_;refine Lab.step _ rfl ?_;intro K hK)|simp only [jumps_goto,jumps_ret,jumps_normal]|simp only [Exit.then,Exit.inBlock,jumps_goto,jumps_ret,jumps_normal]|go_step3)
 refine (next_v T 1 (.slice (some ⟨g,0,none⟩) 1 cc) 1 1 c x hs k1 c1 _ S6).mono ?_;rintro e w7 ⟨rfl,m7,hw⟩
 have S7:Sc T (1) (.slice (some ⟨g,0,none⟩) 1 cc) 1 1 x w7:=by rw [hw];exact Sc.drewN S6 _
 have O7:Oth w w7 x x:=by rw [hw];exact Oth.trans O6 (Oth.drewN _ _ _ _)
 have G7:St g w7:=by rw [hw];exact St.drewN G6 _
 clear hw
 go_wp2_with (first|(refine wp_scope_lab 8 ?_;intro K hK)|(refine Lab.step _ rfl ?_;intro K hK)|(refine hK _ _ _ ?_;refine Lab.step _ rfl ?_;intro K hK)|simp only [jumps_goto,jumps_ret,jumps_normal]|simp only [Exit.then,Exit.inBlock,jumps_goto,jumps_ret,jumps_normal]|go_step3)
 refine (hLf _ _ _ _ _ S7).mono ?_;rintro e w8 ⟨rfl,S8,P8⟩
 have O8:Oth w w8 x x:=Oth.trans O7 P8
 have G8:St g w8:=G7.oth P8 hgx
 go_wp2_with (first|(refine wp_scope_lab 8 ?_;intro K hK)|(refine Lab.step _ rfl ?_;intro K hK)|(refine hK _ _ _ ?_;refine Lab.step _ rfl ?_;intro K hK)|simp only [jumps_goto,jumps_ret,jumps_normal]|simp only [Exit.then,Exit.inBlock,jumps_goto,jumps_ret,jumps_normal]|go_step3)
 refine (blanks_v T L (.slice (some ⟨g,0,none⟩) 1 cc) 1 1 93 x hs kL cL (by decide) _ S8).mono ?_;rintro e w9 ⟨rfl,m9,hw⟩
 have S9:Sc T (L) (.slice (some ⟨g,0,none⟩) 1 cc) 1 1 x w9:=by rw [hw];exact Sc.drewN S8 _
 have O9:Oth w w9 x x:=by rw [hw];exact Oth.trans O8 (Oth.drewN _ _ _ _)
 have G9:St g w9:=by rw [hw];exact St.drewN G8 _
 clear hw
 have xlt:=S9.lt
 have xlt1:x<w9.heap.size+1:=oM
 have xlt2:x<w9.heap.size+1+1:=oM
 have xlt3:x<w9.heap.size+1+1+1:=oM
 have x0:=S9.c0
 have x1:=S9.c1
 have x2:=S9.c2
 have x3:=S9.c3
 have x4:=S9.c4
 have xz1:=S9.z1
 have xz2:=S9.z2
 have xz3:=S9.z3
 have xz4:=S9.z4
 go_wp2_with (first|(refine wp_scope_lab 8 ?_;intro K hK)|(refine Lab.step _ rfl ?_;intro K hK)|(refine hK _ _ _ ?_;refine Lab.step _ rfl ?_;intro K hK)|simp only [jumps_goto,jumps_ret,jumps_normal]|simp only [Exit.then,Exit.inBlock,jumps_goto,jumps_ret,jumps_normal]|go_step3)
 refine (next_v T L (.slice (some ⟨g,0,none⟩) 1 cc) 1 1 93 x hs kL cL _ S9).mono ?_;rintro e w10 ⟨rfl,m10,hw⟩
 have S10:Sc T (L) (.slice (some ⟨g,0,none⟩) 1 cc) 1 1 x w10:=by rw [hw];exact Sc.drewN S9 _
 have O10:Oth w w10 x x:=by rw [hw];exact Oth.trans O9 (Oth.drewN _ _ _ _)
 have G10:St g w10:=by rw [hw];exact St.drewN G9 _
 clear hw
 clear xlt xlt1 xlt2 xlt3 x0 x1 x2 x3 x4 xz1 xz2 xz3 xz4
 go_wp2_with (first|(refine wp_scope_lab 8 ?_;intro K hK)|(refine Lab.step _ rfl ?_;intro K hK)|(refine hK _ _ _ ?_;refine Lab.step _ rfl ?_;intro K hK)|simp only [jumps_goto,jumps_ret,jumps_normal]|simp only [Exit.then,Exit.inBlock,jumps_goto,jumps_ret,jumps_normal]|go_step3)
 refine (object_0 T L g cc 1 x _ S10 G10).mono ?_;rintro e w11 ⟨rfl,m11,hw⟩
 have S11:Sc T (L) (.slice (some ⟨g,0,none⟩) 1 cc) 1 1 x w11:=by rw [hw];exact Sc.drewN S10 _
 have O11:Oth w w11 x x:=by rw [hw];exact Oth.trans O10 (Oth.drewN _ _ _ _)
 have:St g w11:=by rw [hw];exact St.drewN G10 _
 clear hw
 go_wp2_with (first|(refine wp_scope_lab 8 ?_;intro K hK)|(refine Lab.step _ rfl ?_;intro K hK)|(refine hK _ _ _ ?_;refine Lab.step _ rfl ?_;intro K hK)|simp only [jumps_goto,jumps_ret,jumps_normal]|simp only [Exit.then,Exit.inBlock,jumps_goto,jumps_ret,jumps_normal]|go_step3)
 refine (pop_1 T L (.slice (some ⟨g,0,none⟩) 1 cc) 1 x hs kL _ S11).mono ?_;rintro e w12 ⟨rfl,S12,P12⟩
 have O12:Oth w w12 x x:=Oth.trans O11 P12
 have S20:Sc T n (.slice (some ⟨g,0,none⟩) 1 cc) 0 1 x w12:=by rw [←HL.out];exact S12
 go_wp2_with (first|(refine wp_scope_lab 8 ?_;intro K hK)|(refine Lab.step _ rfl ?_;intro K hK)|(refine hK _ _ _ ?_;refine Lab.step _ rfl ?_;intro K hK)|simp only [jumps_goto,jumps_ret,jumps_normal]|simp only [Exit.then,Exit.inBlock,jumps_goto,jumps_ret,jumps_normal]|go_step3)
 refine (blanks_e T n (.slice (some ⟨g,0,none⟩) 1 cc) 0 1 x hs HN.out.symm _ S20).mono ?_;rintro e w13 ⟨rfl,m13,hw⟩
 have S13:Sc T (n) (.slice (some ⟨g,0,none⟩) 1 cc) 0 1 x w13:=by rw [hw];exact Sc.drewN S20 _
 have O13:Oth w w13 x x:=by rw [hw];exact Oth.trans O12 (Oth.drewN _ _ _ _)
 clear hw
 have xlt:=S13.lt
 have xlt1:x<w13.heap.size+1:=oM
 have xlt2:x<w13.heap.size+1+1:=oM
 have xlt3:x<w13.heap.size+1+1+1:=oM
 have x0:=S13.c0
 have x1:=S13.c1
 have x2:=S13.c2
 have x3:=S13.c3
 have x4:=S13.c4
 have xz1:=S13.z1
 have xz2:=S13.z2
 have xz3:=S13.z3
 have xz4:=S13.z4
 have:((n:Int)==(T.size:Int))=true:=by rw [HN.out];simp
 go_wp2_with (first|(refine wp_scope_lab 8 ?_;intro K hK)|(refine Lab.step _ rfl ?_;intro K hK)|(refine hK _ _ _ ?_;refine Lab.step _ rfl ?_;intro K hK)|simp only [jumps_goto,jumps_ret,jumps_normal]|simp only [Exit.then,Exit.inBlock,jumps_goto,jumps_ret,jumps_normal]|go_step3)
 go_quiet (fail)
 go_wp2_with (first|(refine wp_scope_lab 8 ?_;intro K hK)|(refine Lab.step _ rfl ?_;intro K hK)|(refine hK _ _ _ ?_;refine Lab.step _ rfl ?_;intro K hK)|simp only [jumps_goto,jumps_ret,jumps_normal]|simp only [Exit.then,Exit.inBlock,jumps_goto,jumps_ret,jumps_normal]|go_step3)
 go_ret
 exact ⟨g,cc,rfl,Sc.drewN S13 _,Oth.trans O13 (Oth.drewN _ _ _ _)⟩
structure ScT (T:ByteArray) (n L:Nat) (c:Int):Prop where
 hn:T.size=n
 hL:L+1=n
 h3:3≤n
 h1:n<1024
 k0:0<T.size
 k1:1<T.size
 kL:L<T.size
 c0:((T[0]'k0).toNat:Int)=91
 c1:((T[1]'k1).toNat:Int)=c
 cL:((T[L]'kL).toNat:Int)=93
 hc:c≠32∧c≠9∧c≠10∧c≠13
 hc2:c≠91∧c≠93∧c≠123
 lf:LfS T L
theorem validate_1(T:ByteArray)(n L:Nat)(c:Int)(hT:ScT T n L c)(dp:Nat)(hd:1≤dp)(hd2:dp≤4096)(w:World): Calls prog 36 #[.string T,.int .i64 (dp:Nat)] w fun e w'=>e=.returned (.tuple #[.int .i64 1,.int .i64 1,.int .i64 0])∧Below w.heap.size w w':=by
 have:¬(65536:Int)<(T.size:Int):=by have:=hT.hn;have:=hT.h1;omega
 have:¬(dp:Int)<1:=oM
 have:¬(4096:Int)<(dp:Int):=oM
 go_enter func36,ntmps36
 go_wp2_with fail
 refine (text_1 T n L hT.hn hT.hL hT.h3 hT.h1 hT.k0 hT.k1 hT.kL c hT.c0 hT.c1 hT.cL hT.hc hT.hc2 hT.lf w.heap.size _ ⟨by simp,by simp [go_sem],by simp [go_sem],by simp [go_sem],by simp [go_sem],by simp [go_sem],by simp [go_sem],by simp [go_sem],by simp [go_sem],by simp [go_sem]⟩).mono ?_;rintro e w1 ⟨g,cc,rfl,S1,O1⟩
 have HB:=O1.bel w.heap.size qL qL sM
 have xlt:=S1.lt
 have:w.heap.size<w1.heap.size+1:=oM
 have:w.heap.size<w1.heap.size+1+1:=oM
 have:w.heap.size<w1.heap.size+1+1+1:=oM
 have x0:=S1.c0
 have x1:=S1.c1
 have x2:=S1.c2
 have x3:=S1.c3
 have x4:=S1.c4
 have xz1:=S1.z1
 have xz2:=S1.z2
 have xz3:=S1.z3
 have xz4:=S1.z4
 have:¬(dp:Int)<1:=oM
 go_wp2_with fail
 go_quiet (fail)
 go_wp2_with fail
 go_ret3
 exact ⟨rfl,below_drewN' ((qR.alloc qL _).trans HB) _⟩
theorem look_1(T:ByteArray)(n L:Nat)(c:Int)(hT:ScT T n L c)(w:World): Calls prog 37 #[.string T] w fun e w'=>e=.returned (.int .i64 0)∧Below w.heap.size w w':=by
 go_enter func37,ntmps37
 have hV:=fun w=>validate_1 T n L c hT 4096 (by decide) (by decide) w
 simp only [show ((4096:Nat):Int)=4096 from rfl] at hV
 go_wp2_with fail
 refine (hV _).mono ?_;rintro e w1 ⟨rfl,hb⟩
 go_wp2_with fail
 go_ret
 exact ⟨rfl,hb⟩
end
end Go.Proofs.YtjcioljdlfdnbaaGreatDoor
