/- Part 13: lemmas for TopNumber; no conditions. -/
import Derived.Test.YtjcioljdlfdnbaaGreatDoorH12
import Derived.Lib.PathFns
set_option linter.unusedVariables false
set_option linter.unusedSimpArgs false
set_option maxRecDepth 100000
set_option maxHeartbeats 2000000
open Go.Proofs.Tryz
namespace Go.Proofs.YtjcioljdlfdnbaaGreatDoor
namespace Nn
open Go.RowKit
open Np
theorem lat(s:ByteArray)(p:Nat)(h:p<s.size): s.data.toList[p]?=some (s[p]'h):=by
 rw [List.getElem?_eq_getElem (by rw [←Lib.size_eq];exact h)];rfl
theorem u8_of{a b:UInt8}(h:a.toNat=b.toNat): a=b:=UInt8.toNat_inj.1 h
theorem lat_ne(s:ByteArray)(p:Nat)(h:p<s.size)(b:UInt8)(hb:(s[p]'h).toNat≠b.toNat): s.data.toList[p]?≠some b:=by
 rw [lat s p h];intro e;injection e with e;exact hb (by rw [e])
theorem lat_eq(s:ByteArray)(p:Nat)(h:p<s.size)(b:UInt8)(hb:(s[p]'h).toNat=b.toNat): s.data.toList[p]?=some b:=by
 rw [lat s p h,u8_of hb]
theorem lat_end(s:ByteArray)(p:Nat)(h:s.size≤p)(b:UInt8): s.data.toList[p]?≠some b:=by
 rw [List.getElem?_eq_none (by rw [←Lib.size_eq];exact h)];simp
theorem numE_at{l:List UInt8}{mi:Bool}{wh fr:List UInt8}{p q:Nat}{em:Bool}(h0:p≠l.length)(h1:l[p]?=some 101∨l[p]?=some 69)(hq:nQ l p=q)(he:decide (l[p+1]?=some 45)=em):
  numE l mi wh fr p=if dlen (l.drop q)=0∨q+dlen (l.drop q)≠l.length then none else some (mi,wh,fr,em,(l.drop q).take (dlen (l.drop q))):=by
 unfold numE
 rw [if_neg h0,if_neg (by rcases h1 with h|h <;> rw [h] <;> simp),hq,he]
theorem rread_t1(s:ByteArray)(hs:s.size≤80)(R B:Nat)(mi:Bool)(G kk cap:Nat)(P:Int)(A wh fr:List UInt8)(A':List Nat)(p:Nat)(hp:p≤s.size)(x:Act)(hx:Fz 179 [(0,.string s),(2,.pointer (some ⟨R,0,none⟩)),(4,.pointer (some ⟨B,0,none⟩)),(5,.int .i64 (p:Nat))] x)(W1 w:World)(HO:Hid (OM W1 B mi (.slice (some ⟨G,0,none⟩) kk cap) P 0 A' w))(HR:Hid (RBx R w))(hRB:R≠B)(Q:Exit→Act→World→Prop)(hk0:numE s.data.toList mi wh fr p=none→∀x' w',RdE W1 R B false mi (.slice (some ⟨G,0,none⟩) kk cap) P 0 A' x' w'→Q .ret x' w')(hk1:∀em ds,numE s.data.toList mi wh fr p=some (mi,wh,fr,em,ds)→∀x' w',RdE W1 R B true mi (.slice (some ⟨G,0,none⟩) kk cap) P (ev em 1000000000000 ds) A' x' w'→Q .ret x' w'): (restOf (bodyOf f10) 10).wp prog Q x w:=by
 have hsz:s.size=s.data.toList.length:=Lib.size_eq s
 by_cases h0:p=s.size
 ·refine rread_t1a s hs R B mi G kk cap P A' p h0 x hx W1 w HO HR hRB Q ?_
  exact hk1 false [] (by unfold numE;rw [if_pos (by omega)])
 have hp':p<s.size:=oM
 by_cases h1:(s[p]'hp').toNat=101∨(s[p]'hp').toNat=69
 ·have h1l:s.data.toList[p]?=some 101∨s.data.toList[p]?=some 69:=by
   rcases h1 with h|h
   ·exact .inl (lat_eq s p hp' 101 h)
   ·exact .inr (lat_eq s p hp' 69 h)
  have last:∀(q:Nat) (em:Bool) (x':Act),q≤s.size→nQ s.data.toList p=q→decide (s.data.toList[p+1]?=some 45)=em→Fz 179 [(0,.string s),(2,.pointer (some ⟨R,0,none⟩)),(4,.pointer (some ⟨B,0,none⟩)),(5,.int .i64 (q:Nat)),(10,.bool em)] x'→(restOf (bodyOf f10) 15).wp prog Q x' w:=by
   intro q em x' hq hnq hem hx'
   have hE:=numE_at (mi:=mi) (wh:=wh) (fr:=fr) oM h1l hnq hem
   refine rread_t2a s hs R B mi em G kk cap P A' q _ hq (hid rfl) x' hx' W1 w HO HR hRB Q ?_ ?_
   ·intro h
    refine hk0 (by rw [hE,if_pos (by rw [←hsz];exact h)])
   ·intro hd1 hd2 E hEE
    rw [hEE]
    exact hk1 em _ (by rw [hE,if_neg (by rw [←hsz];exact not_or.2 ⟨hd1,fun h=>h hd2⟩)])
  show Code.wp _ (Code.seq _ _) _ _ _
  refine wp_seq ?_
  refine rp10 rfl s hs R B p hp' x hx w _ _ ?_
  intro x1 hx1
  show Code.wp _ (Code.seq _ _) _ _ _
  refine wp_seq ?_
  refine rp11 rfl s hs R B p hp' h1 x1 hx1 w _ _ ?_
  intro x2 hx2
  show Code.wp _ (Code.seq _ _) _ _ _
  refine wp_seq ?_
  refine rp12 rfl s hs R B p hp' x2 hx2 w _ _ ?_
  intro x3 hx3
  show Code.wp _ (Code.seq _ _) _ _ _
  refine wp_seq ?_
  by_cases hq:p+1<s.size
  ·by_cases g1:(s[p+1]'hq).toNat=45
   ·have e1:=lat_eq s (p+1) hq 45 g1
    refine rp13m rfl s hs R B (p+1) hq g1 x3 hx3 w _ _ ?_
    intro x4 hx4
    show Code.wp _ (Code.seq _ _) _ _ _
    refine wp_seq ?_
    refine rp14m rfl s hs R B (p+1) hq x4 hx4 w _ _ ?_
    intro x5 hx5
    exact last (p+1+1) true x5 oM (by unfold nQ;rw [if_pos (.inl e1)]) (decide_eq_true e1) hx5
   ·have e1:=lat_ne s (p+1) hq 45 g1
    refine rp13o rfl s hs R B (p+1) hq g1 x3 hx3 w _ _ ?_
    intro x4 hx4
    show Code.wp _ (Code.seq _ _) _ _ _
    refine wp_seq ?_
    by_cases g2:(s[p+1]'hq).toNat=43
    ·have e2:=lat_eq s (p+1) hq 43 g2
     refine rp14p rfl s hs R B (p+1) hq g2 x4 hx4 w _ _ ?_
     intro x5 hx5
     exact last (p+1+1) false x5 oM (by unfold nQ;rw [if_pos (.inr e2)]) (decide_eq_false e1) hx5
    ·have e2:=lat_ne s (p+1) hq 43 g2
     refine rp14o rfl s hs R B (p+1) hq g2 x4 hx4 w _ _ ?_
     intro x5 hx5
     exact last (p+1) false x5 oM (by unfold nQ;rw [if_neg (not_or.2 ⟨e1,e2⟩)]) (decide_eq_false e1) hx5
  ·have e1:=lat_end s (p+1) oM 45
   have e2:=lat_end s (p+1) oM 43
   refine rp13e rfl s hs R B (p+1) oM x3 hx3 w _ _ ?_
   intro x4 hx4
   show Code.wp _ (Code.seq _ _) _ _ _
   refine wp_seq ?_
   refine rp14e rfl s hs R B (p+1) oM x4 hx4 w _ _ ?_
   intro x5 hx5
   exact last (p+1) false x5 oM (by unfold nQ;rw [if_neg (not_or.2 ⟨e1,e2⟩)]) (decide_eq_false e1) hx5
 ·refine rread_t1b s hs R B mi G kk cap P A' p hp' (fun h=>h1 (.inl h)) (fun h=>h1 (.inr h)) x hx W1 w HO HR hRB Q ?_
  refine hk0 ?_
  unfold numE
  rw [if_neg (by omega),if_pos ⟨lat_ne s p hp' 101 (fun h=>h1 (.inl h)),lat_ne s p hp' 69 (fun h=>h1 (.inr h))⟩]
theorem rp6{c:Code}(hc:partOf (bodyOf f10) 6=c)(s:ByteArray)(hs:s.size≤80)(R B:Nat)(mi:Bool)(a d:Nat)(ha:a≤s.size)(hd:Hid (dlen (s.data.toList.drop a)=d))(hd0:0<d)(x:Act)(hx:Fz 179 [(0,.string s),(2,.pointer (some ⟨R,0,none⟩)),(4,.pointer (some ⟨B,0,none⟩)),(5,.int .i64 (a:Nat)),(6,.int .i64 (d:Nat))] x)(W1 w:World)(HO:Hid (OM W1 B mi (.slice none 0 0) 0 0 [] w))(K:Act→World→Prop)(Q:Exit→Act→World→Prop)(hk:∀x' w' G cap,Fz 179 [(0,.string s),(2,.pointer (some ⟨R,0,none⟩)),(4,.pointer (some ⟨B,0,none⟩)),(5,.int .i64 (a:Nat)),(6,.int .i64 (d:Nat))] x'→OM W1 B mi (.slice (some ⟨G,0,none⟩) d cap) 0 0 (dig ((s.data.toList.drop a).take d)) w'→d≤cap→K x' w'): c.wp prog (Exit.then K Q) x w:=by
 subst hc
 have HK:=hid hk
 clear hk
 have kv0:=hx.at 0 (.string s) sM
 have kv2:=hx.at 2 (.pointer (some ⟨R,0,none⟩)) sM
 have kv4:=hx.at 4 (.pointer (some ⟨B,0,none⟩)) sM
 have kv5:=hx.at 5 (.int .i64 (a:Nat)) sM
 have kv6:=hx.at 6 (.int .i64 (d:Nat)) sM
 have e:=hx.lit179
 rw [e];simp only [kv0,kv2,kv4,kv5,kv6]
 clear hx e kv0 kv2 kv4 kv5 kv6
 have gen:=qG x
 obtain ⟨u,hu⟩ :=gen
 simp only [hu]
 clear hu x
 obtain ⟨i0,hi0,hz0,hs0,hb0⟩ :=info_parts (show (prog.info? 3).map (fun i=>(i.zero,i.size,i.bytes))=some (some (.int .i64 0),1,8) by kernel_rfl)
 have hsz:=dlen_size s a ha
 rw [hd.out] at hsz
 show Code.wp _ (Code.seq _ _) _ _ _
 go_wp2_with fail
 go_loopg [7] d (fun mm v7 wr=>∃(i:Nat) (v:Value),v7=.int .i64 (i:Nat)∧i≤d∧mm=d-i∧Hid (OM W1 B mi v 0 0 (dig ((s.data.toList.drop a).take i)) wr))
 case atStart=>exact ⟨0,_,rfl,by omega,by omega,HO⟩
 case round=>
  clear HO
  obtain ⟨i,v,rfl,hi,rfl,HO⟩ :=hrel
  have hdl:d≤(s.data.toList.drop a).length:=by have:=dlen_le (s.data.toList.drop a);rw [hd.out] at this;exact this
  have hyl:(dig ((s.data.toList.drop a).take i)).length=i:=by simp [dig];simp at hdl;omega
  by_cases hlt:i<d
  ·have f1:decide (i<d)=true:=by rw [decide_eq_true_eq];exact hlt
   obtain ⟨hk2,hD⟩ :=dlen_in s a i (by rw [hd.out];exact hlt)
   have hX:=idx_run s (a+i) hk2 ((a:Int)+(i:Int)) oM
   have hw1:IntKind.i64.wrap ((a:Int)+(i:Int))=(a:Int)+(i:Int):=IntWalk.i64_in _ oM
   obtain ⟨b,hb⟩:∃b,(s[a+i]'hk2).toNat=b:=⟨_,rfl⟩
   have hb1:48≤b∧b≤57:=by rw [←hb];exact hD
   obtain ⟨e,he⟩:∃e:Nat,b-48=e:=⟨_,rfl⟩
   have hnx:dig ((s.data.toList.drop a).take (i+1))=dig ((s.data.toList.drop a).take i)++[e]:=by
    have hl:i<(s.data.toList.drop a).length:=oM
    rw [List.take_succ_eq_append_getElem hl]
    have:(s.data.toList.drop a)[i]=s[a+i]'hk2:=by rw [List.getElem_drop];rfl
    simp only [dig,List.map_append,List.map_cons,List.map_nil,this,dv,hb,he]
   have HNX:=hid hnx
   rw [hb] at hX
   generalize dig ((s.data.toList.drop a).take i)=ys at HO hyl HNX
   have w4:IntKind.i64.wrap (b:Int)=(b:Int):=IntWalk.i64_in _ oM
   have w5:IntKind.i64.wrap ((b:Int)-48)=(e:Int):=by rw [IntWalk.i64_in _ (by omega)];omega
   have c1:=HO.out.c1
   have z1:=HO.out.z1
   have bl:B<wr.heap.size:=Nat.lt_of_lt_of_le HO.out.bl HO.out.gr.size
   have bl1:B<wr.heap.size+1:=oM
   have hbb:W1.heap.size≤wr.heap.size:=HO.out.gr.size
   have hy9:ys.length<1000:=oM
   clear hyl hnx hD he hb hdl
   go_wp2_with fail
   apply wp_cut2 (fun G cap W'=>Hid (OM W1 B mi (.slice (some ⟨G,0,none⟩) (ys.length+1) cap) 0 0 (ys++[e]) W'))
   ·refine wp_region_noPanic ?_
    go_region_law ((first|((first|refine step_grow rfl _ _ 31 rfl 3 i0 _ 1 8 underlying31 hi0 hz0 hs0 hb0 rfl oM HO.out.own hbb rfl rfl rfl rfl rfl oM oM ?_|refine step_grow (w:=wr.drew) rfl _ _ 31 rfl 3 i0 _ 1 8 underlying31 hi0 hz0 hs0 hb0 rfl oM HO.out.drew.own hbb rfl rfl rfl rfl rfl oM oM ?_);intro G cap w3 ho hg;obtain ⟨xa,xb⟩ :=(by first|exact HO.out.keep hg|exact HO.out.drew.keep hg:w3.cell? ⟨B,1,none⟩=some v∧w3.frozen? ⟨B,1,none⟩=false))))
    all_goals refine NoPanic.normal ?_
    all_goals exact ⟨G,cap,rfl,hid (by first|exact HO.out.push hg ho|exact HO.out.drew.push hg ho)⟩
   ·rintro G cap W2 HO2
    clear HO c1 z1 bl bl1 hbb
    go_wp2_with fail
    go_roundg (d-(i+1))
    case measure=>go_light;omega
    case rel=>go_light;exact ⟨i+1,_,by go_num,by omega,rfl,by rw [HNX.out];exact HO2⟩
  ·obtain rfl:i=d:=oM
   have f1:decide (i<i)=false:=by simp
   have own:=HO.out.own
   obtain ⟨k,hk⟩:∃k,i=k+1:=⟨i-1,by omega⟩
   rw [hyl,hk] at own
   obtain ⟨G,cap,rfl⟩ :=ownsRow_succ own
   have oc:=(own_row own).2.2.1
   rw [←hk] at HO oc
   clear own hk
   go_wp2_with fail
   exact HK.out _ _ G cap (Fz.cons (Fz.cons (Fz.cons (Fz.cons (Fz.cons (Fz.mk0 179 _ rfl) 6 _ rfl) 5 _ rfl) 4 _ rfl) 2 _ rfl) 0 _ rfl) HO.out oc
theorem rp7{c:Code}(hc:partOf (bodyOf f10) 7=c)(s:ByteArray)(hs:s.size≤80)(R B:Nat)(a d:Nat)(x:Act)(hx:Fz 179 [(0,.string s),(2,.pointer (some ⟨R,0,none⟩)),(4,.pointer (some ⟨B,0,none⟩)),(5,.int .i64 (a:Nat)),(6,.int .i64 (d:Nat))] x)(w:World)(c2:w.cell? ⟨B,2,none⟩=some (.int .i64 0))(z2:w.frozen? ⟨B,2,none⟩=false)(K:Act→World→Prop)(Q:Exit→Act→World→Prop)(hk:∀x',Fz 179 [(0,.string s),(2,.pointer (some ⟨R,0,none⟩)),(4,.pointer (some ⟨B,0,none⟩)),(5,.int .i64 (a:Nat)),(6,.int .i64 (d:Nat))] x'→K x' (w.setCell ⟨B,2,none⟩ (.int .i64 (d:Nat)))): c.wp prog (Exit.then K Q) x w:=by
 subst hc
 have HK:=hid hk
 clear hk
 have kv0:=hx.at 0 (.string s) sM
 have kv2:=hx.at 2 (.pointer (some ⟨R,0,none⟩)) sM
 have kv4:=hx.at 4 (.pointer (some ⟨B,0,none⟩)) sM
 have kv5:=hx.at 5 (.int .i64 (a:Nat)) sM
 have kv6:=hx.at 6 (.int .i64 (d:Nat)) sM
 have e:=hx.lit179
 rw [e];simp only [kv0,kv2,kv4,kv5,kv6]
 clear hx e kv0 kv2 kv4 kv5 kv6
 have gen:=qG x
 obtain ⟨u,hu⟩ :=gen
 simp only [hu]
 clear hu x
 show Code.wp _ (Code.region _ _ _) _ _ _
 go_wp2_with fail
 exact HK.out _ (Fz.cons (Fz.cons (Fz.cons (Fz.cons (Fz.cons (Fz.mk0 179 _ rfl) 6 _ rfl) 5 _ rfl) 4 _ rfl) 2 _ rfl) 0 _ rfl)
theorem rp8{c:Code}(hc:partOf (bodyOf f10) 8=c)(s:ByteArray)(hs:s.size≤80)(R B:Nat)(a d:Nat)(had:a+d≤s.size)(x:Act)(hx:Fz 179 [(0,.string s),(2,.pointer (some ⟨R,0,none⟩)),(4,.pointer (some ⟨B,0,none⟩)),(5,.int .i64 (a:Nat)),(6,.int .i64 (d:Nat))] x)(w:World)(K:Act→World→Prop)(Q:Exit→Act→World→Prop)(hk:∀x',Fz 179 [(0,.string s),(2,.pointer (some ⟨R,0,none⟩)),(4,.pointer (some ⟨B,0,none⟩)),(5,.int .i64 ((a+d:Nat):Int))] x'→K x' w): c.wp prog (Exit.then K Q) x w:=by
 subst hc
 have HK:=hid hk
 clear hk
 have kv0:=hx.at 0 (.string s) sM
 have kv2:=hx.at 2 (.pointer (some ⟨R,0,none⟩)) sM
 have kv4:=hx.at 4 (.pointer (some ⟨B,0,none⟩)) sM
 have kv5:=hx.at 5 (.int .i64 (a:Nat)) sM
 have kv6:=hx.at 6 (.int .i64 (d:Nat)) sM
 have e:=hx.lit179
 rw [e];simp only [kv0,kv2,kv4,kv5,kv6]
 clear hx e kv0 kv2 kv4 kv5 kv6
 have gen:=qG x
 obtain ⟨u,hu⟩ :=gen
 simp only [hu]
 clear hu x
 have:IntKind.i64.wrap ((a:Int)+(d:Int))=((a+d:Nat):Int):=by rw [IntWalk.i64_in _ (by omega)];omega
 show Code.wp _ (Code.region _ _ _) _ _ _
 go_wp2_with fail
 exact HK.out _ (Fz.cons (Fz.cons (Fz.cons (Fz.cons (Fz.mk0 179 _ rfl) 5 _ rfl) 4 _ rfl) 2 _ rfl) 0 _ rfl)
theorem rp9e{c:Code}(hc:partOf (bodyOf f10) 9=c)(s:ByteArray)(hs:s.size≤80)(R B:Nat)(p:Nat)(hp:p=s.size)(x:Act)(hx:Fz 179 [(0,.string s),(2,.pointer (some ⟨R,0,none⟩)),(4,.pointer (some ⟨B,0,none⟩)),(5,.int .i64 (p:Nat))] x)(w:World)(K:Act→World→Prop)(Q:Exit→Act→World→Prop)(hk:∀x',Fz 179 [(0,.string s),(2,.pointer (some ⟨R,0,none⟩)),(4,.pointer (some ⟨B,0,none⟩)),(5,.int .i64 (p:Nat))] x'→K x' w): c.wp prog (Exit.then K Q) x w:=by
 subst hc
 have HK:=hid hk
 clear hk
 have kv0:=hx.at 0 (.string s) sM
 have kv2:=hx.at 2 (.pointer (some ⟨R,0,none⟩)) sM
 have kv4:=hx.at 4 (.pointer (some ⟨B,0,none⟩)) sM
 have kv5:=hx.at 5 (.int .i64 (p:Nat)) sM
 have e:=hx.lit179
 rw [e];simp only [kv0,kv2,kv4,kv5]
 clear hx e kv0 kv2 kv4 kv5
 have gen:=qG x
 obtain ⟨u,hu⟩ :=gen
 simp only [hu]
 clear hu x
 have:decide ((p:Int)<(s.size:Int))=false:=by rw [decide_eq_false_iff_not];omega
 show Code.wp _ (Code.seq _ _) _ _ _
 go_wp2_with fail
 exact HK.out _ (Fz.cons (Fz.cons (Fz.cons (Fz.cons (Fz.mk0 179 _ rfl) 5 _ rfl) 4 _ rfl) 2 _ rfl) 0 _ rfl)
theorem rp9o{c:Code}(hc:partOf (bodyOf f10) 9=c)(s:ByteArray)(hs:s.size≤80)(R B:Nat)(p:Nat)(hp:p<s.size)(he:(s[p]'hp).toNat≠46)(x:Act)(hx:Fz 179 [(0,.string s),(2,.pointer (some ⟨R,0,none⟩)),(4,.pointer (some ⟨B,0,none⟩)),(5,.int .i64 (p:Nat))] x)(w:World)(K:Act→World→Prop)(Q:Exit→Act→World→Prop)(hk:∀x',Fz 179 [(0,.string s),(2,.pointer (some ⟨R,0,none⟩)),(4,.pointer (some ⟨B,0,none⟩)),(5,.int .i64 (p:Nat))] x'→K x' w): c.wp prog (Exit.then K Q) x w:=by
 subst hc
 have HK:=hid hk
 clear hk
 have kv0:=hx.at 0 (.string s) sM
 have kv2:=hx.at 2 (.pointer (some ⟨R,0,none⟩)) sM
 have kv4:=hx.at 4 (.pointer (some ⟨B,0,none⟩)) sM
 have kv5:=hx.at 5 (.int .i64 (p:Nat)) sM
 have e:=hx.lit179
 rw [e];simp only [kv0,kv2,kv4,kv5]
 clear hx e kv0 kv2 kv4 kv5
 have gen:=qG x
 obtain ⟨u,hu⟩ :=gen
 simp only [hu]
 clear hu x
 have:decide ((p:Int)<(s.size:Int))=true:=by rw [decide_eq_true_eq];omega
 have hX:=idx_run s p hp (p:Int) rfl
 obtain ⟨b,hb⟩:∃b,(s[p]'hp).toNat=b:=⟨_,rfl⟩
 rw [hb] at hX he
 have:((b:Int)==46)=false:=by rw [beq_eq_false_iff_ne];omega
 clear he
 show Code.wp _ (Code.seq _ _) _ _ _
 go_wp2_with fail
 exact HK.out _ (Fz.cons (Fz.cons (Fz.cons (Fz.cons (Fz.mk0 179 _ rfl) 5 _ rfl) 4 _ rfl) 2 _ rfl) 0 _ rfl)
theorem rp9f{c:Code}(hc:partOf (bodyOf f10) 9=c)(s:ByteArray)(hs:s.size≤80)(R B:Nat)(mi:Bool)(p d:Nat)(hp:p<s.size)(he46:(s[p]'hp).toNat=46)(hd:Hid (dlen (s.data.toList.drop (p+1))=d))(x:Act)(hx:Fz 179 [(0,.string s),(2,.pointer (some ⟨R,0,none⟩)),(4,.pointer (some ⟨B,0,none⟩)),(5,.int .i64 (p:Nat))] x)(W1 w:World)(v0:Value)(P0:Int)(Y:List Nat)(hY:Y.length≤80)(HO:Hid (OM W1 B mi v0 P0 0 Y w))(HR:Hid (RBx R w))(K:Act→World→Prop)(Q:Exit→Act→World→Prop)(hk0:d=0→∀x' w',RdE W1 R B false mi v0 P0 0 Y x' w'→Q .ret x' w')(hk:0<d→∀x' w' v',Fz 179 [(0,.string s),(2,.pointer (some ⟨R,0,none⟩)),(4,.pointer (some ⟨B,0,none⟩)),(5,.int .i64 ((p+1+d:Nat):Int))] x'→OM W1 B mi v' P0 0 (Y++dig ((s.data.toList.drop (p+1)).take d)) w'→K x' w'): c.wp prog (Exit.then K Q) x w:=by
 subst hc
 have HK:=hid hk
 have HK0:=hid hk0
 clear hk hk0
 have kv0:=hx.at 0 (.string s) sM
 have kv2:=hx.at 2 (.pointer (some ⟨R,0,none⟩)) sM
 have kv4:=hx.at 4 (.pointer (some ⟨B,0,none⟩)) sM
 have kv5:=hx.at 5 (.int .i64 (p:Nat)) sM
 have e:=hx.lit179
 rw [e];simp only [kv0,kv2,kv4,kv5]
 clear hx e kv0 kv2 kv4 kv5
 have gen:=qG x
 obtain ⟨u,hu⟩ :=gen
 simp only [hu]
 clear hu x
 obtain ⟨i0,hi0,hz0,hs0,hb0⟩ :=info_parts (show (prog.info? 3).map (fun i=>(i.zero,i.size,i.bytes))=some (some (.int .i64 0),1,8) by kernel_rfl)
 have hsz:=dlen_size s (p+1) oM
 rw [hd.out] at hsz
 have dp:decide ((p:Int)<(s.size:Int))=true:=by rw [decide_eq_true_eq];omega
 have hXp:=idx_run s p hp (p:Int) rfl
 rw [he46] at hXp
 have hwp:IntKind.i64.wrap ((p:Int)+1)=((p+1:Nat):Int):=by rw [IntWalk.i64_in _ (by omega)];omega
 have hrun:=fun W=>rrun_any s (p+1) d oM oM hd W
 have r0:=HR.out.c0
 have r1:=HR.out.c1
 have r2:=HR.out.c2
 have r3:=HR.out.c3
 have s0:=HR.out.z0
 have s1:=HR.out.z1
 have s2:=HR.out.z2
 have s3:=HR.out.z3
 have bl:B<w.heap.size:=Nat.lt_of_lt_of_le HO.out.bl HO.out.gr.size
 have rl:=HR.out.lt
 show Code.wp _ (Code.seq _ _) _ _ _
 by_cases h0:d=0
 ·have e1:((d:Int)==0)=true:=by rw [beq_iff_eq];omega
  have HZ:=hid (HK0.out h0)
  clear h0 HK0 HK
  go_wp2_with fail
  refine (hrun _).mono ?_;rintro e w1 ⟨rfl,rfl⟩
  go_wp2_with fail
  exact HZ.out _ _ ⟨(Fz.cons (Fz.cons (Fz.mk0 179 _ rfl) 3 _ rfl) 2 _ rfl),w,rfl,HO.out.gr,HR.out,fun h=>by cases h⟩
 ·have e1:((d:Int)==0)=false:=by rw [beq_eq_false_iff_ne];omega
  clear r0 r1 r2 r3 s0 s1 s2 s3 bl rl HK0
  go_wp2_with fail
  refine (hrun _).mono ?_;rintro e w1 ⟨rfl,rfl⟩
  go_wp2_with fail
  have hwe:IntKind.i64.wrap ((d:Int)+1)=(d:Int)+1:=IntWalk.i64_in _ oM
  have hwf:IntKind.i64.wrap ((p:Int)+((d:Int)+1))=((p+1+d:Nat):Int):=by rw [IntWalk.i64_in _ (by omega)];omega
  have hp1:Hid (0<d):=hid oM
  clear e1 h0 hrun
  go_loopg [9] d (fun mm v9 wr=>∃(j:Nat) (v:Value),v9=.int .i64 ((j:Int)+1)∧j≤d∧mm=d-j∧Hid (OM W1 B mi v P0 0 (Y++dig ((s.data.toList.drop (p+1)).take j)) wr))
  case atStart=>exact ⟨0,_,by go_num,by omega,by omega,by simpa [dig] using HO⟩
  case round=>
   clear HO HR
   obtain ⟨i,v,rfl,hi,rfl,HO⟩ :=hrel
   have hdl:d≤(s.data.toList.drop (p+1)).length:=by have:=dlen_le (s.data.toList.drop (p+1));rw [hd.out] at this;exact this
   have hyl:(Y++dig ((s.data.toList.drop (p+1)).take i)).length≤160:=by simp [dig];omega
   by_cases hlt:i<d
   ·have f1:decide ((i:Int)+1≤(d:Int))=true:=by rw [decide_eq_true_eq];omega
    obtain ⟨hk2,hD⟩ :=dlen_in s (p+1) i (by rw [hd.out];exact hlt)
    have hX:=idx_run s (p+1+i) hk2 ((p:Int)+((i:Int)+1)) oM
    have hw1:IntKind.i64.wrap ((p:Int)+((i:Int)+1))=(p:Int)+((i:Int)+1):=IntWalk.i64_in _ oM
    obtain ⟨b,hb⟩:∃b,(s[p+1+i]'hk2).toNat=b:=⟨_,rfl⟩
    have hb1:48≤b∧b≤57:=by rw [←hb];exact hD
    obtain ⟨e,he⟩:∃e:Nat,b-48=e:=⟨_,rfl⟩
    have hnx:Y++dig ((s.data.toList.drop (p+1)).take (i+1))=(Y++dig ((s.data.toList.drop (p+1)).take i))++[e]:=by
     have hl:i<(s.data.toList.drop (p+1)).length:=oM
     rw [List.take_succ_eq_append_getElem hl]
     have:(s.data.toList.drop (p+1))[i]=s[p+1+i]'hk2:=by rw [List.getElem_drop];rfl
     simp only [dig,List.map_append,List.map_cons,List.map_nil,this,dv,hb,he,List.append_assoc]
    have HNX:=hid hnx
    rw [hb] at hX
    generalize Y++dig ((s.data.toList.drop (p+1)).take i)=ys at HO hyl HNX
    have w4:IntKind.i64.wrap (b:Int)=(b:Int):=IntWalk.i64_in _ oM
    have w5:IntKind.i64.wrap ((b:Int)-48)=(e:Int):=by rw [IntWalk.i64_in _ (by omega)];omega
    have w6:IntKind.i64.wrap ((i:Int)+1+1)=(i:Int)+1+1:=IntWalk.i64_in _ oM
    have c1:=HO.out.c1
    have z1:=HO.out.z1
    have bl:B<wr.heap.size:=Nat.lt_of_lt_of_le HO.out.bl HO.out.gr.size
    have bl1:B<wr.heap.size+1:=oM
    have hbb:W1.heap.size≤wr.heap.size:=HO.out.gr.size
    have hy9:ys.length<1000:=oM
    clear hyl hnx hD he hb hdl
    go_wp2_with fail
    apply wp_cut2 (fun G cap W'=>Hid (OM W1 B mi (.slice (some ⟨G,0,none⟩) (ys.length+1) cap) P0 0 (ys++[e]) W'))
    ·refine wp_region_noPanic ?_
     go_region_law ((first|((first|refine step_grow rfl _ _ 31 rfl 3 i0 _ 1 8 underlying31 hi0 hz0 hs0 hb0 rfl oM HO.out.own hbb rfl rfl rfl rfl rfl oM oM ?_|refine step_grow (w:=wr.drew) rfl _ _ 31 rfl 3 i0 _ 1 8 underlying31 hi0 hz0 hs0 hb0 rfl oM HO.out.drew.own hbb rfl rfl rfl rfl rfl oM oM ?_);intro G cap w3 ho hg;obtain ⟨xa,xb⟩ :=(by first|exact HO.out.keep hg|exact HO.out.drew.keep hg:w3.cell? ⟨B,1,none⟩=some v∧w3.frozen? ⟨B,1,none⟩=false))))
     all_goals refine NoPanic.normal ?_
     all_goals exact ⟨G,cap,rfl,hid (by first|exact HO.out.push hg ho|exact HO.out.drew.push hg ho)⟩
    ·rintro G cap W2 HO2
     clear HO c1 z1 bl bl1 hbb
     go_wp2_with fail
     go_roundg (d-(i+1))
     case measure=>go_light;omega
     case rel=>go_light;exact ⟨i+1,_,by go_num,by omega,rfl,by rw [HNX.out];exact HO2⟩
   ·obtain rfl:i=d:=oM
    have f1:decide ((i:Int)+1≤(i:Int))=false:=by rw [decide_eq_false_iff_not];omega
    go_wp2_with fail
    exact HK.out hp1.out _ _ _ (Fz.cons (Fz.cons (Fz.cons (Fz.cons (Fz.mk0 179 _ rfl) 5 _ rfl) 4 _ rfl) 2 _ rfl) 0 _ rfl) HO.out
theorem rp2{c:Code}(hc:partOf (bodyOf f10) 2=c)(s:ByteArray)(hs:s.size≤80)(R B:Nat)(x:Act)(hx:Fz 179 [(0,.string s),(2,.pointer (some ⟨R,0,none⟩)),(4,.pointer (some ⟨B,0,none⟩))] x)(w:World)(K:Act→World→Prop)(Q:Exit→Act→World→Prop)(hk:∀x',Fz 179 [(0,.string s),(2,.pointer (some ⟨R,0,none⟩)),(4,.pointer (some ⟨B,0,none⟩)),(5,.int .i64 0)] x'→K x' w): c.wp prog (Exit.then K Q) x w:=by
 subst hc
 have HK:=hid hk
 clear hk
 have kv0:=hx.at 0 (.string s) sM
 have kv2:=hx.at 2 (.pointer (some ⟨R,0,none⟩)) sM
 have kv4:=hx.at 4 (.pointer (some ⟨B,0,none⟩)) sM
 have e:=hx.lit179
 rw [e];simp only [kv0,kv2,kv4]
 clear hx e kv0 kv2 kv4
 have gen:=qG x
 obtain ⟨u,hu⟩ :=gen
 simp only [hu]
 clear hu x
 show Code.wp _ (Code.region _ _ _) _ _ _
 go_wp2_with fail
 exact HK.out _ (Fz.cons (Fz.cons (Fz.cons (Fz.cons (Fz.mk0 179 _ rfl) 5 _ rfl) 4 _ rfl) 2 _ rfl) 0 _ rfl)
theorem rp3e{c:Code}(hc:partOf (bodyOf f10) 3=c)(s:ByteArray)(hs:s.size≤80)(R B:Nat)(h0:s.size=0)(x:Act)(hx:Fz 179 [(0,.string s),(2,.pointer (some ⟨R,0,none⟩)),(4,.pointer (some ⟨B,0,none⟩)),(5,.int .i64 0)] x)(w:World)(K:Act→World→Prop)(Q:Exit→Act→World→Prop)(hk:∀x',Fz 179 [(0,.string s),(2,.pointer (some ⟨R,0,none⟩)),(4,.pointer (some ⟨B,0,none⟩)),(5,.int .i64 0)] x'→K x' w): c.wp prog (Exit.then K Q) x w:=by
 subst hc
 have HK:=hid hk
 clear hk
 have kv0:=hx.at 0 (.string s) sM
 have kv2:=hx.at 2 (.pointer (some ⟨R,0,none⟩)) sM
 have kv4:=hx.at 4 (.pointer (some ⟨B,0,none⟩)) sM
 have kv5:=hx.at 5 (.int .i64 0) sM
 have e:=hx.lit179
 rw [e];simp only [kv0,kv2,kv4,kv5]
 clear hx e kv0 kv2 kv4 kv5
 have gen:=qG x
 obtain ⟨u,hu⟩ :=gen
 simp only [hu]
 clear hu x
 have:decide ((0:Int)<(s.size:Int))=false:=by rw [decide_eq_false_iff_not];omega
 show Code.wp _ (Code.seq _ _) _ _ _
 go_wp2_with fail
 exact HK.out _ (Fz.cons (Fz.cons (Fz.cons (Fz.cons (Fz.mk0 179 _ rfl) 5 _ rfl) 4 _ rfl) 2 _ rfl) 0 _ rfl)
theorem rp3o{c:Code}(hc:partOf (bodyOf f10) 3=c)(s:ByteArray)(hs:s.size≤80)(R B:Nat)(h0:0<s.size)(he:(s[0]'h0).toNat≠45)(x:Act)(hx:Fz 179 [(0,.string s),(2,.pointer (some ⟨R,0,none⟩)),(4,.pointer (some ⟨B,0,none⟩)),(5,.int .i64 0)] x)(w:World)(K:Act→World→Prop)(Q:Exit→Act→World→Prop)(hk:∀x',Fz 179 [(0,.string s),(2,.pointer (some ⟨R,0,none⟩)),(4,.pointer (some ⟨B,0,none⟩)),(5,.int .i64 0)] x'→K x' w): c.wp prog (Exit.then K Q) x w:=by
 subst hc
 have HK:=hid hk
 clear hk
 have kv0:=hx.at 0 (.string s) sM
 have kv2:=hx.at 2 (.pointer (some ⟨R,0,none⟩)) sM
 have kv4:=hx.at 4 (.pointer (some ⟨B,0,none⟩)) sM
 have kv5:=hx.at 5 (.int .i64 0) sM
 have e:=hx.lit179
 rw [e];simp only [kv0,kv2,kv4,kv5]
 clear hx e kv0 kv2 kv4 kv5
 have gen:=qG x
 obtain ⟨u,hu⟩ :=gen
 simp only [hu]
 clear hu x
 have:decide ((0:Int)<(s.size:Int))=true:=by rw [decide_eq_true_eq];omega
 have hX:=idx_run s 0 h0 0 rfl
 obtain ⟨b,hb⟩:∃b,(s[0]'h0).toNat=b:=⟨_,rfl⟩
 rw [hb] at hX he
 have:((b:Int)==45)=false:=by rw [beq_eq_false_iff_ne];omega
 clear he
 show Code.wp _ (Code.seq _ _) _ _ _
 go_wp2_with fail
 exact HK.out _ (Fz.cons (Fz.cons (Fz.cons (Fz.cons (Fz.mk0 179 _ rfl) 5 _ rfl) 4 _ rfl) 2 _ rfl) 0 _ rfl)
theorem rp3m{c:Code}(hc:partOf (bodyOf f10) 3=c)(s:ByteArray)(hs:s.size≤80)(R B:Nat)(h0:0<s.size)(he:(s[0]'h0).toNat=45)(x:Act)(hx:Fz 179 [(0,.string s),(2,.pointer (some ⟨R,0,none⟩)),(4,.pointer (some ⟨B,0,none⟩)),(5,.int .i64 0)] x)(w:World)(c0:w.cell? ⟨B,0,none⟩=some (.bool false))(z0:w.frozen? ⟨B,0,none⟩=false)(K:Act→World→Prop)(Q:Exit→Act→World→Prop)(hk:∀x',Fz 179 [(0,.string s),(2,.pointer (some ⟨R,0,none⟩)),(4,.pointer (some ⟨B,0,none⟩)),(5,.int .i64 1)] x'→K x' (w.setCell ⟨B,0,none⟩ (.bool true))): c.wp prog (Exit.then K Q) x w:=by
 subst hc
 have HK:=hid hk
 clear hk
 have kv0:=hx.at 0 (.string s) sM
 have kv2:=hx.at 2 (.pointer (some ⟨R,0,none⟩)) sM
 have kv4:=hx.at 4 (.pointer (some ⟨B,0,none⟩)) sM
 have kv5:=hx.at 5 (.int .i64 0) sM
 have e:=hx.lit179
 rw [e];simp only [kv0,kv2,kv4,kv5]
 clear hx e kv0 kv2 kv4 kv5
 have gen:=qG x
 obtain ⟨u,hu⟩ :=gen
 simp only [hu]
 clear hu x
 have:decide ((0:Int)<(s.size:Int))=true:=by rw [decide_eq_true_eq];omega
 have hX:=idx_run s 0 h0 0 rfl
 rw [he] at hX
 show Code.wp _ (Code.seq _ _) _ _ _
 go_wp2_with fail
 exact HK.out _ (Fz.cons (Fz.cons (Fz.cons (Fz.cons (Fz.mk0 179 _ rfl) 5 _ rfl) 4 _ rfl) 2 _ rfl) 0 _ rfl)
theorem rp4{c:Code}(hc:partOf (bodyOf f10) 4=c)(s:ByteArray)(hs:s.size≤80)(R B:Nat)(a d:Nat)(ha:a≤s.size)(hd:Hid (dlen (s.data.toList.drop a)=d))(x:Act)(hx:Fz 179 [(0,.string s),(2,.pointer (some ⟨R,0,none⟩)),(4,.pointer (some ⟨B,0,none⟩)),(5,.int .i64 (a:Nat))] x)(w:World)(K:Act→World→Prop)(Q:Exit→Act→World→Prop)(hk:∀x',Fz 179 [(0,.string s),(2,.pointer (some ⟨R,0,none⟩)),(4,.pointer (some ⟨B,0,none⟩)),(5,.int .i64 (a:Nat)),(6,.int .i64 (d:Nat))] x'→K x' w): c.wp prog (Exit.then K Q) x w:=by
 subst hc
 have HK:=hid hk
 clear hk
 have kv0:=hx.at 0 (.string s) sM
 have kv2:=hx.at 2 (.pointer (some ⟨R,0,none⟩)) sM
 have kv4:=hx.at 4 (.pointer (some ⟨B,0,none⟩)) sM
 have kv5:=hx.at 5 (.int .i64 (a:Nat)) sM
 have e:=hx.lit179
 rw [e];simp only [kv0,kv2,kv4,kv5]
 clear hx e kv0 kv2 kv4 kv5
 have gen:=qG x
 obtain ⟨u,hu⟩ :=gen
 simp only [hu]
 clear hu x
 show Code.wp _ (Code.region _ _ _) _ _ _
 go_wp2_with (first|(go_at_call 18;refine (rrun_any s a d oM ha hd _).mono ?_;rintro e w1 ⟨rfl,rfl⟩))
 exact HK.out _ (Fz.cons (Fz.cons (Fz.cons (Fz.cons (Fz.cons (Fz.mk0 179 _ rfl) 6 _ rfl) 5 _ rfl) 4 _ rfl) 2 _ rfl) 0 _ rfl)
theorem rp5a{c:Code}(hc:partOf (bodyOf f10) 5=c)(s:ByteArray)(hs:s.size≤80)(R B:Nat)(a d:Nat)(hd:d=1)(x:Act)(hx:Fz 179 [(0,.string s),(2,.pointer (some ⟨R,0,none⟩)),(4,.pointer (some ⟨B,0,none⟩)),(5,.int .i64 (a:Nat)),(6,.int .i64 (d:Nat))] x)(w:World)(K:Act→World→Prop)(Q:Exit→Act→World→Prop)(hk:∀x',Fz 179 [(0,.string s),(2,.pointer (some ⟨R,0,none⟩)),(4,.pointer (some ⟨B,0,none⟩)),(5,.int .i64 (a:Nat)),(6,.int .i64 (d:Nat))] x'→K x' w): c.wp prog (Exit.then K Q) x w:=by
 subst hc
 have HK:=hid hk
 clear hk
 have kv0:=hx.at 0 (.string s) sM
 have kv2:=hx.at 2 (.pointer (some ⟨R,0,none⟩)) sM
 have kv4:=hx.at 4 (.pointer (some ⟨B,0,none⟩)) sM
 have kv5:=hx.at 5 (.int .i64 (a:Nat)) sM
 have kv6:=hx.at 6 (.int .i64 (d:Nat)) sM
 have e:=hx.lit179
 rw [e];simp only [kv0,kv2,kv4,kv5,kv6]
 clear hx e kv0 kv2 kv4 kv5 kv6
 have gen:=qG x
 obtain ⟨u,hu⟩ :=gen
 simp only [hu]
 clear hu x
 subst hd
 show Code.wp _ (Code.seq _ _) _ _ _
 go_wp2_with fail
 exact HK.out _ (Fz.cons (Fz.cons (Fz.cons (Fz.cons (Fz.cons (Fz.mk0 179 _ rfl) 6 _ rfl) 5 _ rfl) 4 _ rfl) 2 _ rfl) 0 _ rfl)
theorem rp5b{c:Code}(hc:partOf (bodyOf f10) 5=c)(s:ByteArray)(hs:s.size≤80)(R B:Nat)(a d:Nat)(hd:1<d)(ha:a<s.size)(he:(s[a]'ha).toNat≠48)(x:Act)(hx:Fz 179 [(0,.string s),(2,.pointer (some ⟨R,0,none⟩)),(4,.pointer (some ⟨B,0,none⟩)),(5,.int .i64 (a:Nat)),(6,.int .i64 (d:Nat))] x)(w:World)(K:Act→World→Prop)(Q:Exit→Act→World→Prop)(hk:∀x',Fz 179 [(0,.string s),(2,.pointer (some ⟨R,0,none⟩)),(4,.pointer (some ⟨B,0,none⟩)),(5,.int .i64 (a:Nat)),(6,.int .i64 (d:Nat))] x'→K x' w): c.wp prog (Exit.then K Q) x w:=by
 subst hc
 have HK:=hid hk
 clear hk
 have kv0:=hx.at 0 (.string s) sM
 have kv2:=hx.at 2 (.pointer (some ⟨R,0,none⟩)) sM
 have kv4:=hx.at 4 (.pointer (some ⟨B,0,none⟩)) sM
 have kv5:=hx.at 5 (.int .i64 (a:Nat)) sM
 have kv6:=hx.at 6 (.int .i64 (d:Nat)) sM
 have e:=hx.lit179
 rw [e];simp only [kv0,kv2,kv4,kv5,kv6]
 clear hx e kv0 kv2 kv4 kv5 kv6
 have gen:=qG x
 obtain ⟨u,hu⟩ :=gen
 simp only [hu]
 clear hu x
 have:((d:Int)==0)=false:=by rw [beq_eq_false_iff_ne];omega
 have:decide ((1:Int)<(d:Int))=true:=by rw [decide_eq_true_eq];omega
 have hX:=idx_run s a ha (a:Int) rfl
 obtain ⟨b,hb⟩:∃b,(s[a]'ha).toNat=b:=⟨_,rfl⟩
 rw [hb] at hX he
 have:((b:Int)==48)=false:=by rw [beq_eq_false_iff_ne];omega
 clear he
 show Code.wp _ (Code.seq _ _) _ _ _
 go_wp2_with fail
 exact HK.out _ (Fz.cons (Fz.cons (Fz.cons (Fz.cons (Fz.cons (Fz.mk0 179 _ rfl) 6 _ rfl) 5 _ rfl) 4 _ rfl) 2 _ rfl) 0 _ rfl)
theorem rp5z{c:Code}(hc:partOf (bodyOf f10) 5=c)(s:ByteArray)(hs:s.size≤80)(R B:Nat)(mi:Bool)(v:Value)(P E:Int)(Y:List Nat)(a d:Nat)(hd:d=0)(x:Act)(hx:Fz 179 [(0,.string s),(2,.pointer (some ⟨R,0,none⟩)),(4,.pointer (some ⟨B,0,none⟩)),(5,.int .i64 (a:Nat)),(6,.int .i64 (d:Nat))] x)(W1 w:World)(hg:W1.grownBy w (some B))(HR:Hid (RBx R w))(K:Act→World→Prop)(Q:Exit→Act→World→Prop)(hk:∀x' w',RdE W1 R B false mi v P E Y x' w'→Q .ret x' w'): c.wp prog (Exit.then K Q) x w:=by
 subst hc
 have HK:=hid hk
 clear hk
 have kv0:=hx.at 0 (.string s) sM
 have kv2:=hx.at 2 (.pointer (some ⟨R,0,none⟩)) sM
 have kv4:=hx.at 4 (.pointer (some ⟨B,0,none⟩)) sM
 have kv5:=hx.at 5 (.int .i64 (a:Nat)) sM
 have kv6:=hx.at 6 (.int .i64 (d:Nat)) sM
 have e:=hx.lit179
 rw [e];simp only [kv0,kv2,kv4,kv5,kv6]
 clear hx e kv0 kv2 kv4 kv5 kv6
 have gen:=qG x
 obtain ⟨u,hu⟩ :=gen
 simp only [hu]
 clear hu x
 have r0:=HR.out.c0
 have r1:=HR.out.c1
 have r2:=HR.out.c2
 have r3:=HR.out.c3
 have s0:=HR.out.z0
 have s1:=HR.out.z1
 have s2:=HR.out.z2
 have s3:=HR.out.z3
 have rl:=HR.out.lt
 subst hd
 show Code.wp _ (Code.seq _ _) _ _ _
 go_wp2_with fail
 exact HK.out _ _ ⟨(Fz.cons (Fz.cons (Fz.mk0 179 _ rfl) 3 _ rfl) 2 _ rfl),w,rfl,hg,HR.out,fun h=>by cases h⟩
theorem rp5y{c:Code}(hc:partOf (bodyOf f10) 5=c)(s:ByteArray)(hs:s.size≤80)(R B:Nat)(mi:Bool)(v:Value)(P E:Int)(Y:List Nat)(a d:Nat)(hd:1<d)(ha:a<s.size)(he:(s[a]'ha).toNat=48)(x:Act)(hx:Fz 179 [(0,.string s),(2,.pointer (some ⟨R,0,none⟩)),(4,.pointer (some ⟨B,0,none⟩)),(5,.int .i64 (a:Nat)),(6,.int .i64 (d:Nat))] x)(W1 w:World)(hg:W1.grownBy w (some B))(HR:Hid (RBx R w))(K:Act→World→Prop)(Q:Exit→Act→World→Prop)(hk:∀x' w',RdE W1 R B false mi v P E Y x' w'→Q .ret x' w'): c.wp prog (Exit.then K Q) x w:=by
 subst hc
 have HK:=hid hk
 clear hk
 have kv0:=hx.at 0 (.string s) sM
 have kv2:=hx.at 2 (.pointer (some ⟨R,0,none⟩)) sM
 have kv4:=hx.at 4 (.pointer (some ⟨B,0,none⟩)) sM
 have kv5:=hx.at 5 (.int .i64 (a:Nat)) sM
 have kv6:=hx.at 6 (.int .i64 (d:Nat)) sM
 have e:=hx.lit179
 rw [e];simp only [kv0,kv2,kv4,kv5,kv6]
 clear hx e kv0 kv2 kv4 kv5 kv6
 have gen:=qG x
 obtain ⟨u,hu⟩ :=gen
 simp only [hu]
 clear hu x
 have r0:=HR.out.c0
 have r1:=HR.out.c1
 have r2:=HR.out.c2
 have r3:=HR.out.c3
 have s0:=HR.out.z0
 have s1:=HR.out.z1
 have s2:=HR.out.z2
 have s3:=HR.out.z3
 have rl:=HR.out.lt
 have:((d:Int)==0)=false:=by rw [beq_eq_false_iff_ne];omega
 have:decide ((1:Int)<(d:Int))=true:=by rw [decide_eq_true_eq];omega
 have hX:=idx_run s a ha (a:Int) rfl
 rw [he] at hX
 show Code.wp _ (Code.seq _ _) _ _ _
 go_wp2_with fail
 exact HK.out _ _ ⟨(Fz.cons (Fz.cons (Fz.mk0 179 _ rfl) 3 _ rfl) 2 _ rfl),w,rfl,hg,HR.out,fun h=>by cases h⟩
theorem wp_cuta{P:Program}{c:Code}{Q:Exit→Act→World→Prop}{a:Act}{w:World}(S:Act→World→Prop)(h:c.wp P (Exit.then S Q) a w)(k:∀a w,S a w→Q .normal a w): c.wp P Q a w:=by
 refine wp_mono h ?_
 intro e a w hq
 cases e with
 | normal=>exact k a w hq
 | _=>exact hq
theorem rp1{c:Code}(hc:partOf (bodyOf f10) 1=c)(s:ByteArray)(R:Nat)(x:Act)(hx:Fz 179 [(0,.string s),(2,.pointer (some ⟨R,0,none⟩))] x)(w:World)(K:Act→World→Prop)(Q:Exit→Act→World→Prop)(hk:∀x',Fz 179 [(0,.string s),(2,.pointer (some ⟨R,0,none⟩)),(4,.pointer (some ⟨w.heap.size,0,none⟩))] x'→K x' (w.alloc (.cells #[.bool false,.slice none 0 0,.int .i64 0,.int .i64 0] 37))): c.wp prog (Exit.then K Q) x w:=by
 subst hc
 have HK:=hid hk
 clear hk
 have kv0:=hx.at 0 (.string s) sM
 have kv2:=hx.at 2 (.pointer (some ⟨R,0,none⟩)) sM
 have e:=hx.lit179
 rw [e];simp only [kv0,kv2]
 clear hx e kv0 kv2
 have gen:=qG x
 obtain ⟨u,hu⟩ :=gen
 simp only [hu]
 clear hu x
 show Code.wp _ (Code.region _ _ _) _ _ _
 go_wp2_with fail
 exact HK.out _ (Fz.cons (Fz.cons (Fz.cons (Fz.mk0 179 _ rfl) 4 _ rfl) 2 _ rfl) 0 _ rfl)
theorem rread_start(s:ByteArray)(w:World)(Post:Ending→World→Prop)(h:∀x,Fz 179 [(0,.string s),(2,.pointer (some ⟨w.heap.size,0,none⟩)),(4,.pointer (some ⟨w.heap.size+1,0,none⟩))] x→(restOf (bodyOf f10) 2).wp prog (bodyPost prog f10 Post) x ((w.alloc (.cells #[.bool false,.slice none 0 0,.int .i64 0,.int .i64 0] 37)).alloc (.cells #[.bool false,.slice none 0 0,.int .i64 0,.int .i64 0] 37))): Calls prog 10 #[.string s] w Post:=by
 have H:=hid h
 clear h
 go_enter func10,ntmps10
 refine wp_seq ?_
 refine wp_cuta (fun x' w'=>Fz 179 [(0,.string s),(2,.pointer (some ⟨w.heap.size,0,none⟩))] x'∧w'=w.alloc (.cells #[.bool false,.slice none 0 0,.int .i64 0,.int .i64 0] 37)) ?_ ?_
 ·go_wp2_with fail
  exact ⟨(Fz.cons (Fz.cons (Fz.mk0 179 _ rfl) 2 _ rfl) 0 _ rfl),by first|rfl|trivial⟩
 ·rintro x1 w1 ⟨hx1,rfl⟩
  show Code.wp _ (Code.seq _ _) _ _ _
  refine wp_seq ?_
  refine rp1 rfl s _ x1 hx1 _ _ _ ?_
  intro x2 hx2
  exact H.out x2 (by simpa using hx2)
theorem rd_ret(R:Nat)(ok b:Bool)(v:Value)(P E:Int)(x:Act)(hx:Fz 179 [(2,.pointer (some ⟨R,0,none⟩)),(3,.bool ok)] x)(w:World)(Post:Ending→World→Prop)(c0:w.cell? ⟨R,0,none⟩=some (.bool b))(c1:w.cell? ⟨R,1,none⟩=some v)(c2:w.cell? ⟨R,2,none⟩=some (.int .i64 P))(c3:w.cell? ⟨R,3,none⟩=some (.int .i64 E))(hv:∃G k cap,v=.slice G k cap)(hp:Post (.returned (.tuple #[.agg #[.bool b,v,.int .i64 P,.int .i64 E],.bool ok])) w): bodyPost prog f10 Post .ret x w:=by
 obtain ⟨G,k,cap,rfl⟩ :=hv
 have:x.tmps[2]?=some (.pointer (some ⟨R,0,none⟩)):=hx.2.2 (2,_) sM
 have:x.tmps[3]?=some (.bool ok):=hx.2.2 (3,_) sM
 have hd:=hx.1
 cases x with
 | mk t d=>
  have hd':d=[]:=hd
  subst hd'
  refine bodyPost_ret (v:=.tuple #[.agg #[.bool b,.slice G k cap,.int .i64 P,.int .i64 E],.bool ok]) (by simp [results,results10,go_sem, *]) rfl hp
theorem lay4_cells(W:World)(R:Nat)(h:RBx R W)(b:Bool)(v:Value)(P E:Int): (lay4 W R b v P E).cell? ⟨R,0,none⟩=some (.bool b)∧(lay4 W R b v P E).cell? ⟨R,1,none⟩=some v∧(lay4 W R b v P E).cell? ⟨R,2,none⟩=some (.int .i64 P)∧(lay4 W R b v P E).cell? ⟨R,3,none⟩=some (.int .i64 E):=by
 have c0:=h.c0
 have c1:=h.c1
 have c2:=h.c2
 have c3:=h.c3
 have lt:=h.lt
 unfold lay4
 refine ⟨?_,?_,?_,?_⟩ <;> simp [go_sem, *]
theorem lay4_other(W:World)(R:Nat)(b:Bool)(v:Value)(P E:Int)(a:Addr)(h:a.block≠R): (lay4 W R b v P E).cell? a=W.cell? a:=by
 unfold lay4
 rw [qO (by intro e;exact h (by rw [←e])),qO (by intro e;exact h (by rw [←e])),qO (by intro e;exact h (by rw [←e])),qO (by intro e;exact h (by rw [←e]))]
theorem rd_fin0(W1 w:World)(R B:Nat)(hb:Below w.heap.size w W1)(hR:w.heap.size≤R)(hB:w.heap.size≤B)(mi:Bool)(v:Value)(P E:Int)(Y:List Nat)(x':Act)(w':World)(h:RdE W1 R B false mi v P E Y x' w')(Post:Ending→World→Prop)(hp:Below w.heap.size w w'→Post (.returned (.tuple #[.agg #[.bool false,.slice none 0 0,.int .i64 0,.int .i64 0],.bool false])) w'): bodyPost prog f10 Post .ret x' w':=by
 obtain ⟨hx,w'',rfl,hg,hr,-⟩ :=h
 obtain ⟨c0,c1,c2,c3⟩ :=lay4_cells w'' R hr false (.slice none 0 0) 0 0
 have hb2:Below w.heap.size w w'':=hb.grown hg hb.size (fun j hj=>by injection hj with hj;omega)
 refine rd_ret R false false (.slice none 0 0) 0 0 x' hx _ Post (by simpa using c0) (by simpa using c1) (by simpa using c2) (by simpa using c3) ⟨_,_,_,rfl⟩ (hp ?_)
 exact (((hb2.setCell hR _).setCell hR _).setCell hR _).setCell hR _
theorem rd_fin1(W1 w:World)(R B:Nat)(hb:Below w.heap.size w W1)(hR:w.heap.size≤R)(hB:w.heap.size≤B)(hR1:R<W1.heap.size)(mi:Bool)(v:Value)(P E:Int)(Y:List Nat)(hY:0<Y.length)(x':Act)(w':World)(h:RdE W1 R B true mi v P E Y x' w')(Post:Ending→World→Prop)(hp:∀G cap,Dr Y G w'→Y.length≤cap→Below w.heap.size w w'→Post (.returned (.tuple #[.agg #[.bool mi,.slice (some ⟨G,0,none⟩) Y.length cap,.int .i64 P,.int .i64 E],.bool true])) w'): bodyPost prog f10 Post .ret x' w':=by
 obtain ⟨hx,w'',rfl,hg,hr,ho⟩ :=h
 have own:=ho rfl
 obtain ⟨k,hk⟩:∃k,Y.length=k+1:=⟨Y.length-1,by omega⟩
 rw [hk] at own
 obtain ⟨G,cap,rfl⟩ :=ownsRow_succ own
 obtain ⟨o1,o2,o3,o4⟩ :=own_row own
 have hb2:Below w.heap.size w w'':=hb.grown hg hb.size (fun j hj=>by injection hj with hj;omega)
 obtain ⟨c0,c1,c2,c3⟩ :=lay4_cells w'' R hr mi (.slice (some ⟨G,0,none⟩) (k+1) cap) P E
 have hGR:G≠R:=oM
 have:=hp G cap ⟨by simpa [lay4,World.setCell] using o2,fun i hi=>(lay4_other _ _ _ _ _ _ _ hGR).trans (o4 i _ (by simp [hi]))⟩ oM ((((hb2.setCell hR _).setCell hR _).setCell hR _).setCell hR _)
 rw [hk] at this
 exact rd_ret R true mi (.slice (some ⟨G,0,none⟩) (k+1) cap) P E x' hx _ Post (by simpa using c0) (by simpa using c1) (by simpa using c2) (by simpa using c3) ⟨_,_,_,rfl⟩ (by simpa using this)
def om0:Nat:=0
theorem om_new(w:World): OM ((w.alloc (.cells #[.bool false,.slice none 0 0,.int .i64 0,.int .i64 0] 37)).alloc (.cells #[.bool false,.slice none 0 0,.int .i64 0,.int .i64 0] 37)) (w.heap.size+1) false (.slice none 0 0) 0 0 [] ((w.alloc (.cells #[.bool false,.slice none 0 0,.int .i64 0,.int .i64 0] 37)).alloc (.cells #[.bool false,.slice none 0 0,.int .i64 0,.int .i64 0] 37)):=
 ⟨⟨rfl,rfl,rfl,qL,fun _ _ _=>rfl⟩,by simp,World.ownsRow_nil _ _ _ _,by simp [go_sem],by simp [go_sem],by simp [go_sem],by simp [go_sem],by simp [go_sem],by simp [go_sem],by simp [go_sem],by simp [go_sem]⟩
theorem rb_new(w:World): RBx w.heap.size ((w.alloc (.cells #[.bool false,.slice none 0 0,.int .i64 0,.int .i64 0] 37)).alloc (.cells #[.bool false,.slice none 0 0,.int .i64 0,.int .i64 0] 37)):=
 ⟨by simp;omega,by simp [go_sem],by simp [go_sem],by simp [go_sem],by simp [go_sem],by simp [go_sem],by simp [go_sem],by simp [go_sem],by simp [go_sem]⟩
theorem rread_body(s:ByteArray)(hs:s.size≤80)(R B:Nat)(W1:World)(hRB:R≠B)(hRW:RBx R W1)(Q:Exit→Act→World→Prop)(mi:Bool)(a:Nat)(ha:a≤s.size)(hA:nA s.data.toList=a)(hmi:decide (s.data.toList[0]?=some 45)=mi)(x:Act)(hx:Fz 179 [(0,.string s),(2,.pointer (some ⟨R,0,none⟩)),(4,.pointer (some ⟨B,0,none⟩)),(5,.int .i64 (a:Nat))] x)(w:World)(HO:OM W1 B mi (.slice none 0 0) 0 0 [] w)(hk0:numP s.data.toList=none→∀x' w' v P E Y,RdE W1 R B false mi v P E Y x' w'→Q .ret x' w')(hk1:∀wh fr em ds,numP s.data.toList=some (mi,wh,fr,em,ds)→∀x' w' v,RdE W1 R B true mi v wh.length (ev em 1000000000000 ds) (dig (wh++fr)) x' w'→Q .ret x' w'): (restOf (bodyOf f10) 4).wp prog Q x w:=by
 have rb:∀W,W1.grownBy W (some B)→RBx R W:=fun W h=>hRW.of h.size (h.block R hRW.lt (by simp;exact hRB))
 obtain ⟨d,hd⟩:∃d,dlen (s.data.toList.drop a)=d:=⟨_,rfl⟩
 have hsz:=dlen_size s a ha
 rw [hd] at hsz
 have hW:nW s.data.toList=d:=by unfold nW;rw [hA,hd]
 show Code.wp _ (Code.seq _ _) _ _ _
 refine wp_seq ?_
 refine rp4 rfl s hs R B a d ha (hid hd) x hx w _ _ ?_
 intro x1 hx1
 have go6:(0<d)→¬(1<d∧s.data.toList[a]?=some 48)→∀x5,Fz 179 [(0,.string s),(2,.pointer (some ⟨R,0,none⟩)),(4,.pointer (some ⟨B,0,none⟩)),(5,.int .i64 (a:Nat)),(6,.int .i64 (d:Nat))] x5→(restOf (bodyOf f10) 6).wp prog Q x5 w:=by
  intro hd0 hnz x5 hx5
  obtain ⟨wh,hwh⟩:∃wh,(s.data.toList.drop a).take d=wh:=⟨_,rfl⟩
  have hwl:wh.length=d:=by rw [←hwh];have h1:=dlen_le (s.data.toList.drop a);rw [hd] at h1;simp at h1 ⊢;omega
  have hP:numP s.data.toList=if s.data.toList[a+d]?=some 46 then (if dlen (s.data.toList.drop (a+d+1))=0 then none else numE s.data.toList mi wh ((s.data.toList.drop (a+d+1)).take (dlen (s.data.toList.drop (a+d+1)))) (a+d+1+dlen (s.data.toList.drop (a+d+1)))) else numE s.data.toList mi wh [] (a+d):=by
   unfold numP
   rw [hW,hA,if_neg (not_or.2 ⟨by omega,hnz⟩),hmi,hwh]
  show Code.wp _ (Code.seq _ _) _ _ _
  refine wp_seq ?_
  refine rp6 rfl s hs R B mi a d ha (hid hd) hd0 x5 hx5 W1 w (hid HO) _ _ ?_
  intro x6 w6 G cap hx6 HO6 hcap
  rw [hwh] at HO6
  show Code.wp _ (Code.seq _ _) _ _ _
  refine wp_seq ?_
  refine rp7 rfl s hs R B a d x6 hx6 w6 HO6.c2 HO6.z2 _ _ ?_
  intro x7 hx7
  have HO7:=HO6.setP (d:Int)
  generalize w6.setCell ⟨B,2,none⟩ (.int .i64 (d:Int))=w7 at HO7 ⊢
  clear HO6
  show Code.wp _ (Code.seq _ _) _ _ _
  refine wp_seq ?_
  refine rp8 rfl s hs R B a d hsz x7 hx7 w7 _ _ ?_
  intro x8 hx8
  show Code.wp _ (Code.seq _ _) _ _ _
  refine wp_seq ?_
  have plain:s.data.toList[a+d]?≠some 46→∀x9,Fz 179 [(0,.string s),(2,.pointer (some ⟨R,0,none⟩)),(4,.pointer (some ⟨B,0,none⟩)),(5,.int .i64 ((a+d:Nat):Int))] x9→(restOf (bodyOf f10) 10).wp prog Q x9 w7:=by
   intro hne x9 hx9
   rw [if_neg hne] at hP
   refine rread_t1 s hs R B mi G d cap (d:Int) wh wh [] (dig wh) (a+d) hsz x9 hx9 W1 w7 (hid HO7) (hid (rb w7 HO7.gr)) hRB Q ?_ ?_
   ·intro h x' w' hr
    exact hk0 (by rw [hP,h]) x' w' _ _ _ _ hr
   ·intro em ds h x' w' hr
    refine hk1 wh [] em ds (by rw [hP,h]) x' w' (.slice (some ⟨G,0,none⟩) d cap) ?_
    rw [List.append_nil,hwl];exact hr
  by_cases q:a+d=s.size
  ·refine rp9e rfl s hs R B (a+d) q x8 hx8 w7 _ _ ?_
   intro x9 hx9
   exact plain (lat_end s (a+d) oM 46) x9 hx9
  have hpS:a+d<s.size:=oM
  by_cases g:(s[a+d]'hpS).toNat=46
  ·have e46:=lat_eq s (a+d) hpS 46 g
   rw [if_pos e46] at hP
   obtain ⟨m,hm⟩:∃m,dlen (s.data.toList.drop (a+d+1))=m:=⟨_,rfl⟩
   obtain ⟨fr,hfr⟩:∃fr,(s.data.toList.drop (a+d+1)).take m=fr:=⟨_,rfl⟩
   rw [hm,hfr] at hP
   have hsm:=dlen_size s (a+d+1) oM
   rw [hm] at hsm
   refine rp9f rfl s hs R B mi (a+d) m hpS g (hid hm) x8 hx8 W1 w7 (.slice (some ⟨G,0,none⟩) d cap) (d:Int) (dig wh) (by simp [dig];omega) (hid HO7) (hid (rb w7 HO7.gr)) _ _ ?_ ?_
   ·intro hz x' w' hr
    exact hk0 (by rw [hP,if_pos hz]) x' w' _ _ _ _ hr
   ·intro hm0 x9 w9 v' hx9 HO9
    rw [hfr] at HO9
    rw [if_neg (by omega)] at hP
    have hY:dig wh++dig fr=dig (wh++fr):=by simp [dig]
    rw [hY] at HO9
    obtain ⟨k,hk⟩:∃k,(dig (wh++fr)).length=k+1:=⟨(dig (wh++fr)).length-1,by simp [dig];omega⟩
    have own:=HO9.own
    rw [hk] at own
    obtain ⟨G2,cap2,rfl⟩ :=ownsRow_succ own
    refine rread_t1 s hs R B mi G2 (k+1) cap2 (d:Int) wh wh fr (dig (wh++fr)) (a+d+1+m) hsm x9 hx9 W1 w9 (hid HO9) (hid (rb w9 HO9.gr)) hRB Q ?_ ?_
    ·intro h x' w' hr
     exact hk0 (by rw [hP,h]) x' w' _ _ _ _ hr
    ·intro em ds h x' w' hr
     refine hk1 wh fr em ds (by rw [hP,h]) x' w' (.slice (some ⟨G2,0,none⟩) (k+1) cap2) ?_
     rw [hwl];exact hr
  ·refine rp9o rfl s hs R B (a+d) hpS g x8 hx8 w7 _ _ ?_
   intro x9 hx9
   exact plain (lat_ne s (a+d) hpS 46 g) x9 hx9
 show Code.wp _ (Code.seq _ _) _ _ _
 refine wp_seq ?_
 by_cases z:d=0
 ·refine rp5z rfl s hs R B mi (.slice none 0 0) 0 0 [] a d z x1 hx1 W1 w HO.gr (hid (rb w HO.gr)) _ _ ?_
  intro x' w' h
  refine hk0 ?_ x' w' _ _ _ _ h
  unfold numP
  rw [hW,hA,if_pos (.inl z)]
 have haS:a<s.size:=oM
 by_cases o:d=1
 ·refine rp5a rfl s hs R B a d o x1 hx1 w _ _ ?_
  intro x5 hx5
  exact go6 oM (fun h=>oM) x5 hx5
 by_cases g:(s[a]'haS).toNat=48
 ·refine rp5y rfl s hs R B mi (.slice none 0 0) 0 0 [] a d oM haS g x1 hx1 W1 w HO.gr (hid (rb w HO.gr)) _ _ ?_
  intro x' w' h
  refine hk0 ?_ x' w' _ _ _ _ h
  unfold numP
  rw [hW,hA,if_pos (.inr ⟨by omega,lat_eq s a haS 48 g⟩)]
 ·refine rp5b rfl s hs R B a d oM haS g x1 hx1 w _ _ ?_
  intro x5 hx5
  exact go6 oM (fun h=>lat_ne s a haS 48 g h.2) x5 hx5
theorem ndigit_any(b:UInt8)(w:World): Calls prog 412 #[.int .u8 (b.toNat:Nat)] w fun e w'=>e=.returned (.bool (decide (Dg b)))∧w=w':=by
 by_cases h1:48≤b.toNat
 ·have d1:decide (48≤((b.toNat:Nat):Int))=true:=by rw [decide_eq_true_eq];omega
  by_cases h2:b.toNat≤57
  ·have d2:decide (((b.toNat:Nat):Int)≤57)=true:=by rw [decide_eq_true_eq];omega
   rw [show decide (Dg b)=true by rw [decide_eq_true_eq];exact ⟨h1,h2⟩]
   go_enter func412,ntmps412
   go_wp2_with fail
   go_ret
   exact ⟨rfl,rfl⟩
  ·have d2:decide (((b.toNat:Nat):Int)≤57)=false:=by rw [decide_eq_false_iff_not];omega
   rw [show decide (Dg b)=false by rw [decide_eq_false_iff_not];exact fun h=>h2 h.2]
   go_enter func412,ntmps412
   go_wp2_with fail
   go_ret
   exact ⟨rfl,rfl⟩
 ·have d1:decide (48≤((b.toNat:Nat):Int))=false:=by rw [decide_eq_false_iff_not];omega
  rw [show decide (Dg b)=false by rw [decide_eq_false_iff_not];exact fun h=>h1 h.1]
  go_enter func412,ntmps412
  go_wp2_with fail
  go_ret
  exact ⟨rfl,rfl⟩
theorem ndigit_yes(b:UInt8)(h:Dg b)(w:World): Calls prog 412 #[.int .u8 (b.toNat:Nat)] w fun e w'=>e=.returned (.bool true)∧w=w':=by
 have:=ndigit_any b w
 rwa [show decide (Dg b)=true from decide_eq_true h] at this
theorem ndigit_no(b:UInt8)(h:¬Dg b)(w:World): Calls prog 412 #[.int .u8 (b.toNat:Nat)] w fun e w'=>e=.returned (.bool false)∧w=w':=by
 have:=ndigit_any b w
 rwa [show decide (Dg b)=false from decide_eq_false h] at this
theorem dlen_in0(s:ByteArray)(j:Nat)(h:j<dlen s.data.toList): ∃hk:j<s.size,Dg (s[j]'hk):=by
 obtain ⟨hk,hd⟩ :=dlen_in s 0 j (by simpa using h)
 simp only [Nat.zero_add] at hk hd
 exact ⟨hk,hd⟩
theorem dlen_out0(s:ByteArray)(hk:dlen s.data.toList<s.size): ¬Dg (s[dlen s.data.toList]'hk):=by
 have:=dlen_out s 0 (by simpa using hk)
 simpa using this
theorem ndigits_any(s:ByteArray)(d:Nat)(hs:s.size≤1000)(hd:Hid (dlen s.data.toList=d))(w:World): Calls prog 407 #[.string s] w fun e w'=>e=.returned (.int .i64 (d:Nat))∧w=w':=by
 have hsz:d≤s.size:=by
  have:=dlen_le s.data.toList
  rw [hd.out,←Lib.size_eq] at this
  exact this
 go_enter func407,ntmps407
 go_wp2_with fail
 go_loopg [3] d (fun g v wr=>(∃j:Nat,v=.int .i64 (j:Nat)∧j≤d∧g=d-j)∧wr=w)
 case atStart=>exact ⟨⟨0,rfl,by omega,rfl⟩,rfl⟩
 case round=>
  obtain ⟨⟨j,rfl,hj,rfl⟩,rfl⟩ :=hrel
  by_cases hlt:j<d
  ·obtain ⟨hk2,hD⟩ :=dlen_in0 s j (by rw [hd.out];exact hlt)
   have d1:decide ((j:Int)<(s.size:Int))=true:=by rw [decide_eq_true_eq];omega
   have d1':decide (j<s.size)=true:=by rw [decide_eq_true_eq];omega
   have hX:=idx_run s j hk2 (j:Int) rfl
   go_wp2_with (first|(go_at_call 412;refine (ndigit_yes (s[j]'hk2) hD _).mono ?_;rintro e w1 ⟨rfl,rfl⟩))
   go_roundg (d-(j+1))
   case measure=>go_light;omega
   case rel=>go_light;exact ⟨⟨j+1,by go_num,by omega,rfl⟩,rfl⟩
  ·obtain rfl:j=d:=oM
   rcases Nat.lt_or_ge j s.size with hl|hl
   ·have d1:decide ((j:Int)<(s.size:Int))=true:=by rw [decide_eq_true_eq];omega
    have d1':decide (j<s.size)=true:=by rw [decide_eq_true_eq];omega
    have hD:¬Dg (s[j]'hl):=by
     have:=dlen_out0 s (by rw [hd.out];exact hl)
     simpa only [hd.out] using this
    have hX:=idx_run s j hl (j:Int) rfl
    go_wp2_with (first|(go_at_call 412;refine (ndigit_no (s[j]'hl) hD _).mono ?_;rintro e w1 ⟨rfl,rfl⟩))
    go_ret
    exact ⟨rfl,rfl⟩
   ·have d1:decide ((j:Int)<(s.size:Int))=false:=by rw [decide_eq_false_iff_not];omega
    have d1':decide (j<s.size)=false:=by rw [decide_eq_false_iff_not];omega
    go_wp2_with fail
    go_ret
    exact ⟨rfl,rfl⟩
theorem npow_e(w:World): Calls prog 409 #[.string ⟨#[]⟩] w fun e w'=>e=.returned (.int .i64 0)∧w=w':=by
 go_enter func409,ntmps409
 go_wp2_with fail
 go_ret
 exact ⟨rfl,rfl⟩
end Nn
end Go.Proofs.YtjcioljdlfdnbaaGreatDoor
