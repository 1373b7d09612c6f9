/- Part 5: lemmas for TopNumber; no conditions. -/
import Derived.Test.YtjcioljdlfdnbaaGreatDoorH04
import Derived.Test.YtjcioljdlfdnbaaGreatDoorRows
set_option linter.unusedVariables false
set_option linter.unusedSimpArgs false
set_option maxRecDepth 100000
set_option maxHeartbeats 2000000
open Go.Proofs.Tryz
namespace Go.Proofs.YtjcioljdlfdnbaaGreatDoor
section
open Go.RowKit
def Ix (w:World) (p:Nat) (T:ByteArray) (n:Nat):Prop:=∃sq b ns,p<w.heap.size∧w.cell? ⟨p,0,none⟩=some (.pointer (some ⟨sq,0,none⟩))∧w.cell? ⟨p,1,none⟩=some (.pointer (some ⟨b,0,none⟩))∧w.cell? ⟨p,2,none⟩=some (.pointer (some ⟨ns,0,none⟩))∧w.cell? ⟨p,3,none⟩=some (.string T)∧Sq w sq n∧Ns w ns b∧Tab w
theorem Ix.below{w w':World}{p n:Nat}{T:ByteArray}(h:Ix w p T n)(hb:Below w.heap.size w w'): Ix w' p T n:=by
 obtain ⟨sq,b,ns,a1,c0,c1,c2,c3,h1,h2,h3⟩ :=h
 exact ⟨sq,b,ns,Nat.lt_of_lt_of_le a1 hb.size,(hb.cell (p:=⟨p,0,none⟩) a1).trans c0,(hb.cell (p:=⟨p,1,none⟩) a1).trans c1,(hb.cell (p:=⟨p,2,none⟩) a1).trans c2,(hb.cell (p:=⟨p,3,none⟩) a1).trans c3,h1.below hb,h2.below hb,h3.below hb⟩
theorem Ix.drewN{w:World}{p n:Nat}{T:ByteArray}(h:Ix w p T n)(m:Nat): Ix (w.drewN m) p T n:=h.below (below_drewN qR m)
structure Doc (T V:ByteArray) (n L:Nat):Prop where
 hn:T.size=n
 hL:L+1=n
 n3:3≤n
 n1:n<1024
 bT:Bare T
 bV:Bare V
 mid:T.extract 1 L=V
 vs:V.size+1=L
 h0:∀h:0<T.size,((T[0]'h).toNat:Int)=91
theorem slice_eq(s t:ByteArray)(k e:Nat)(h:k≤e)(he:e≤s.size)(ht:s.extract k e=t)(w:World): (Instr.slice 9 (.string s) (some (.int .i64 (k:Int))) (some (.int .i64 (e:Int))) none).run prog w=.ok (.string t) w:=by
 rw [run_slice_string w 9 s .i64 .i64 (k:Int) (e:Int) underlying9 (by omega) (by omega) (by omega)]
 rw [show ((k:Int)).toNat=k from rfl,show ((e:Int)).toNat=e from rfl,ht]
theorem ext_all(s:ByteArray): s.extract 0 s.size=s:=by
 first|exact ByteArray.extract_zero_size|exact s.extract_zero_size|simp
theorem Doc.all{T V:ByteArray}{n L:Nat}(h:Doc T V n L)(w:World): (Instr.slice 9 (.string T) (some (.int .i64 0)) (some (.int .i64 (n:Nat))) none).run prog w=.ok (.string T) w:=
 slice_eq T T 0 n oM (by rw [h.hn];omega) (by rw [←h.hn];exact ext_all T) w
theorem Doc.cut{T V:ByteArray}{n L:Nat}(h:Doc T V n L)(w:World): (Instr.slice 9 (.string T) (some (.int .i64 1)) (some (.int .i64 (L:Nat))) none).run prog w=.ok (.string V) w:=
 slice_eq T V 1 L (by have:=h.hL;have:=h.n3;omega) (by have:=h.hL;rw [h.hn];omega) h.mid w
theorem xtext_any(p n:Nat)(T:ByteArray)(w:World)(h:Ix w p T n): Calls prog 89 #[.pointer (some ⟨p,0,none⟩)] w fun e w'=>e=.returned (.string T)∧w=w':=by
 obtain ⟨sq,b,ns,a1,c0,c1,c2,c3,h1,h2,h3⟩ :=h
 go_enter func89,ntmps89
 go_wp2
 go_ret
 exact ⟨rfl,rfl⟩
theorem xmark_0(p n:Nat)(T:ByteArray)(hn:3≤n)(hn2:n<1024)(w:World)(h:Ix w p T n): Calls prog 164 #[.pointer (some ⟨p,0,none⟩),.int .i64 0] w fun e w'=>e=.returned (.tuple #[.int .i64 0,.int .i64 0])∧Below w.heap.size w w':=by
 obtain ⟨sq,b,ns,a1,c0,c1,c2,c3,h1,h2,h3⟩ :=h
 go_enter func164,ntmps164
 go_wp2_with (first|(go_at_call 229;refine (sGet_0 sq n hn hn2 _ h1 h3).mono ?_;rintro e w1 ⟨rfl,hb1⟩))
 go_ret2
 exact ⟨rfl,hb1⟩
theorem xmark_1(p n L:Nat)(T:ByteArray)(hn:3≤n)(hn2:n<1024)(hL:L+1=n)(w:World)(h:Ix w p T n): Calls prog 164 #[.pointer (some ⟨p,0,none⟩),.int .i64 1] w fun e w'=>e=.returned (.tuple #[.int .i64 (L:Nat),.int .i64 0])∧Below w.heap.size w w':=by
 obtain ⟨sq,b,ns,a1,c0,c1,c2,c3,h1,h2,h3⟩ :=h
 have hg:=sGet_1 sq n hn hn2 w h1 h3
 rw [show n-1=L by omega] at hg
 go_enter func164,ntmps164
 go_wp2_with (first|(go_at_call 229;refine hg.mono ?_;rintro e w1 ⟨rfl,hb1⟩))
 go_ret2
 exact ⟨rfl,hb1⟩
theorem xtext_q(p n L:Nat)(T V:ByteArray)(hD:Doc T V n L)(w:World)(h:Ix w p T n)(W:World)(hW:Below w.heap.size w W): Calls prog 89 #[.pointer (some ⟨p,0,none⟩)] W fun e w'=>e=.returned (.string T)∧∃m,w'=W.drewN m:=(xtext_any p n T W (h.below hW)).mono fun e w' ⟨h1,h2⟩ =>⟨h1,0,by rw [←h2];rfl⟩
theorem xnest_q(p ns:Nat)(w:World)(hp:p<w.heap.size)(c:w.cell? ⟨p,2,none⟩=some (.pointer (some ⟨ns,0,none⟩)))(W:World)(hW:Below w.heap.size w W): Calls prog 165 #[.pointer (some ⟨p,0,none⟩)] W fun e w'=>e=.returned (.pointer (some ⟨ns,0,none⟩))∧∃m,w'=W.drewN m:=by
 have c2:=(hW.cell (p:=⟨p,2,none⟩) hp).trans c
 go_enter func165,ntmps165
 go_wp2
 go_ret
 exact ⟨rfl,0,rfl⟩
theorem zone_r(p n L:Nat)(T V:ByteArray)(hD:Doc T V n L)(w:World)(h:Ix w p T n): Calls prog 88 #[.agg #[.pointer (some ⟨p,0,none⟩),.int .i64 (-1)]] w fun e w'=>e=.returned (.agg #[.int .i64 0,.int .i64 (n:Nat)])∧Below w.heap.size w w':=by
 have hn:=hD.n3
 have hn1:=hD.n1
 have hL:=hD.hL
 have hs:=hD.hn
 have hv:=hD.vs
 have hTx:=xtext_q p n L T V hD w h
 go_enter func88,ntmps88
 go_wp2_with (first|(go_at_call 89;refine (xtext_any p n T _ (h.below tq6)).mono ?_;rintro e w9 ⟨rfl,rfl⟩))
 go_wp2_with fail
 try simp only [Exit.inBlock,Exit.then]
 refine bodyPost_ret (v:=.agg #[.int .i64 0,.int .i64 (n:Nat)]) (by simp [results,results88,go_sem, *,hs]) rfl ⟨rfl,tq6⟩
theorem zone_1(p n L:Nat)(T V:ByteArray)(hD:Doc T V n L)(w:World)(h:Ix w p T n): Calls prog 88 #[.agg #[.pointer (some ⟨p,0,none⟩),.int .i64 1]] w fun e w'=>e=.returned (.agg #[.int .i64 1,.int .i64 (L:Nat)])∧Below w.heap.size w w':=by
 have hn:=hD.n3
 have hn1:=hD.n1
 have hL:=hD.hL
 have hs:=hD.hn
 have hv:=hD.vs
 obtain ⟨sq,b,ns,a1,x0,x1,x2,x3,g1,g2,g3⟩ :=id h
 have hNe:=xnest_q p ns w a1 x2
 have hCl:∀(W:World) (hW:Below w.heap.size w W),_:=fun W hW=>nClose_any ns b W (g2.below hW)
 go_enter func88,ntmps88
 go_wp2_with fail
 refine (xmark_0 p n T hn hn1 _ (h.below tq6)).mono ?_;rintro e w1 ⟨rfl,hb1⟩
 have s1:=hb1.size;try simp at s1
 try (have:w.heap.size<w1.heap.size:=oM)
 try (have:w.heap.size<w1.heap.size+1:=oM)
 try (have:w.heap.size<w1.heap.size+1+1:=oM)
 try (have:w.heap.size+1<w1.heap.size:=oM)
 try (have:w.heap.size+1<w1.heap.size+1:=oM)
 try (have:w.heap.size+1<w1.heap.size+1+1:=oM)
 try (have e1_0_0_0:=hb1.cell (p:=⟨w.heap.size,0,none⟩) tq5;simp [go_sem, *] at e1_0_0_0)
 try (have f1_0_0_0:=hb1.frozen (p:=⟨w.heap.size,0,none⟩) tq5;simp [go_sem, *] at f1_0_0_0)
 try (have e1_0_0_1:=hb1.cell (p:=⟨w.heap.size,1,none⟩) tq5;simp [go_sem, *] at e1_0_0_1)
 try (have f1_0_0_1:=hb1.frozen (p:=⟨w.heap.size,1,none⟩) tq5;simp [go_sem, *] at f1_0_0_1)
 try (have e1_0_1_0:=hb1.cell (p:=⟨w.heap.size+1,0,none⟩) tq5;simp [go_sem, *] at e1_0_1_0)
 try (have f1_0_1_0:=hb1.frozen (p:=⟨w.heap.size+1,0,none⟩) tq5;simp [go_sem, *] at f1_0_1_0)
 try (have e1_0_1_1:=hb1.cell (p:=⟨w.heap.size+1,1,none⟩) tq5;simp [go_sem, *] at e1_0_1_1)
 try (have f1_0_1_1:=hb1.frozen (p:=⟨w.heap.size+1,1,none⟩) tq5;simp [go_sem, *] at f1_0_1_1)
 have HB1:=bel_step (w:=w) tq6 hb1
 clear hb1
 go_wp2_with fail
 go_quiet ((first|(go_at_call 165;exact quiet_ex (hNe _ tq6))|(go_at_call 166;exact quiet_ex (hCl _ tq6))))
 go_wp2_with fail
 refine (xmark_1 p n L T hn hn1 hL _ (h.below tq6)).mono ?_;rintro e w2 ⟨rfl,hb2⟩
 have s2:=hb2.size;try simp at s2
 try (have:w.heap.size<w2.heap.size:=oM)
 try (have:w.heap.size<w2.heap.size+1:=oM)
 try (have:w.heap.size<w2.heap.size+1+1:=oM)
 try (have:w.heap.size+1<w2.heap.size:=oM)
 try (have:w.heap.size+1<w2.heap.size+1:=oM)
 try (have:w.heap.size+1<w2.heap.size+1+1:=oM)
 try (have e2_0_0_0:=hb2.cell (p:=⟨w.heap.size,0,none⟩) tq5;simp [go_sem, *] at e2_0_0_0)
 try (have f2_0_0_0:=hb2.frozen (p:=⟨w.heap.size,0,none⟩) tq5;simp [go_sem, *] at f2_0_0_0)
 try (have e2_0_0_1:=hb2.cell (p:=⟨w.heap.size,1,none⟩) tq5;simp [go_sem, *] at e2_0_0_1)
 try (have f2_0_0_1:=hb2.frozen (p:=⟨w.heap.size,1,none⟩) tq5;simp [go_sem, *] at f2_0_0_1)
 try (have e2_0_1_0:=hb2.cell (p:=⟨w.heap.size+1,0,none⟩) tq5;simp [go_sem, *] at e2_0_1_0)
 try (have f2_0_1_0:=hb2.frozen (p:=⟨w.heap.size+1,0,none⟩) tq5;simp [go_sem, *] at f2_0_1_0)
 try (have e2_0_1_1:=hb2.cell (p:=⟨w.heap.size+1,1,none⟩) tq5;simp [go_sem, *] at e2_0_1_1)
 try (have f2_0_1_1:=hb2.frozen (p:=⟨w.heap.size+1,1,none⟩) tq5;simp [go_sem, *] at f2_0_1_1)
 have HB2:=bel_step (w:=w) tq6 hb2
 clear hb2
 go_wp2_with fail
 try simp only [Exit.inBlock,Exit.then]
 refine bodyPost_ret (v:=.agg #[.int .i64 1,.int .i64 (L:Nat)]) (by simp [results,results88,go_sem, *]) rfl ⟨rfl,tq6⟩
theorem span_r(p n L:Nat)(T V:ByteArray)(hD:Doc T V n L)(w:World)(h:Ix w p T n): Calls prog 48 #[.agg #[.pointer (some ⟨p,0,none⟩),.int .i64 (-1)]] w fun e w'=>e=.returned (.agg #[.int .i64 0,.int .i64 (n:Nat)])∧Below w.heap.size w w':=by
 have hn:=hD.n3
 have hn1:=hD.n1
 have hL:=hD.hL
 have hs:=hD.hn
 have hv:=hD.vs
 have hTx:=xtext_q p n L T V hD w h
 have hsl:=hD.all
 go_enter func48,ntmps48
 go_wp2_with fail
 refine (zone_r p n L T V hD _ (h.below tq6)).mono ?_;rintro e w1 ⟨rfl,hb1⟩
 have s1:=hb1.size;try simp at s1
 try (have:w.heap.size<w1.heap.size:=oM)
 try (have:w.heap.size<w1.heap.size+1:=oM)
 try (have:w.heap.size<w1.heap.size+1+1:=oM)
 try (have:w.heap.size+1<w1.heap.size:=oM)
 try (have:w.heap.size+1<w1.heap.size+1:=oM)
 try (have:w.heap.size+1<w1.heap.size+1+1:=oM)
 try (have:w.heap.size+2<w1.heap.size:=oM)
 try (have:w.heap.size+2<w1.heap.size+1:=oM)
 try (have:w.heap.size+2<w1.heap.size+1+1:=oM)
 try (have:w.heap.size+3<w1.heap.size:=oM)
 try (have:w.heap.size+3<w1.heap.size+1:=oM)
 try (have:w.heap.size+3<w1.heap.size+1+1:=oM)
 try (have e1_0_0_0:=hb1.cell (p:=⟨w.heap.size,0,none⟩) tq5;simp [go_sem, *] at e1_0_0_0)
 try (have f1_0_0_0:=hb1.frozen (p:=⟨w.heap.size,0,none⟩) tq5;simp [go_sem, *] at f1_0_0_0)
 try (have e1_0_0_1:=hb1.cell (p:=⟨w.heap.size,1,none⟩) tq5;simp [go_sem, *] at e1_0_0_1)
 try (have f1_0_0_1:=hb1.frozen (p:=⟨w.heap.size,1,none⟩) tq5;simp [go_sem, *] at f1_0_0_1)
 try (have e1_0_1_0:=hb1.cell (p:=⟨w.heap.size+1,0,none⟩) tq5;simp [go_sem, *] at e1_0_1_0)
 try (have f1_0_1_0:=hb1.frozen (p:=⟨w.heap.size+1,0,none⟩) tq5;simp [go_sem, *] at f1_0_1_0)
 try (have e1_0_1_1:=hb1.cell (p:=⟨w.heap.size+1,1,none⟩) tq5;simp [go_sem, *] at e1_0_1_1)
 try (have f1_0_1_1:=hb1.frozen (p:=⟨w.heap.size+1,1,none⟩) tq5;simp [go_sem, *] at f1_0_1_1)
 try (have e1_0_2_0:=hb1.cell (p:=⟨w.heap.size+2,0,none⟩) tq5;simp [go_sem, *] at e1_0_2_0)
 try (have f1_0_2_0:=hb1.frozen (p:=⟨w.heap.size+2,0,none⟩) tq5;simp [go_sem, *] at f1_0_2_0)
 try (have e1_0_2_1:=hb1.cell (p:=⟨w.heap.size+2,1,none⟩) tq5;simp [go_sem, *] at e1_0_2_1)
 try (have f1_0_2_1:=hb1.frozen (p:=⟨w.heap.size+2,1,none⟩) tq5;simp [go_sem, *] at f1_0_2_1)
 try (have e1_0_3_0:=hb1.cell (p:=⟨w.heap.size+3,0,none⟩) tq5;simp [go_sem, *] at e1_0_3_0)
 try (have f1_0_3_0:=hb1.frozen (p:=⟨w.heap.size+3,0,none⟩) tq5;simp [go_sem, *] at f1_0_3_0)
 try (have e1_0_3_1:=hb1.cell (p:=⟨w.heap.size+3,1,none⟩) tq5;simp [go_sem, *] at e1_0_3_1)
 try (have f1_0_3_1:=hb1.frozen (p:=⟨w.heap.size+3,1,none⟩) tq5;simp [go_sem, *] at f1_0_3_1)
 have HB1:=bel_step (w:=w) tq6 hb1
 clear hb1
 go_wp2_with fail
 go_quiet ((first|(go_at_call 89;exact quiet_ex (hTx _ tq6))))
 go_wp2_with fail
 refine (trimLeft_no T _ hD.bT).mono ?_;rintro e w2 ⟨rfl,hb2⟩
 have s2:=hb2.size;try simp at s2
 try (have:w.heap.size<w2.heap.size:=oM)
 try (have:w.heap.size<w2.heap.size+1:=oM)
 try (have:w.heap.size<w2.heap.size+1+1:=oM)
 try (have:w.heap.size+1<w2.heap.size:=oM)
 try (have:w.heap.size+1<w2.heap.size+1:=oM)
 try (have:w.heap.size+1<w2.heap.size+1+1:=oM)
 try (have:w1.heap.size<w2.heap.size:=oM)
 try (have:w1.heap.size<w2.heap.size+1:=oM)
 try (have:w1.heap.size<w2.heap.size+1+1:=oM)
 try (have e2_0_0_0:=hb2.cell (p:=⟨w.heap.size,0,none⟩) tq5;simp [go_sem, *] at e2_0_0_0)
 try (have f2_0_0_0:=hb2.frozen (p:=⟨w.heap.size,0,none⟩) tq5;simp [go_sem, *] at f2_0_0_0)
 try (have e2_0_0_1:=hb2.cell (p:=⟨w.heap.size,1,none⟩) tq5;simp [go_sem, *] at e2_0_0_1)
 try (have f2_0_0_1:=hb2.frozen (p:=⟨w.heap.size,1,none⟩) tq5;simp [go_sem, *] at f2_0_0_1)
 try (have e2_0_1_0:=hb2.cell (p:=⟨w.heap.size+1,0,none⟩) tq5;simp [go_sem, *] at e2_0_1_0)
 try (have f2_0_1_0:=hb2.frozen (p:=⟨w.heap.size+1,0,none⟩) tq5;simp [go_sem, *] at f2_0_1_0)
 try (have e2_0_1_1:=hb2.cell (p:=⟨w.heap.size+1,1,none⟩) tq5;simp [go_sem, *] at e2_0_1_1)
 try (have f2_0_1_1:=hb2.frozen (p:=⟨w.heap.size+1,1,none⟩) tq5;simp [go_sem, *] at f2_0_1_1)
 try (have e2_1_0_0:=hb2.cell (p:=⟨w1.heap.size,0,none⟩) tq5;simp [go_sem, *] at e2_1_0_0)
 try (have f2_1_0_0:=hb2.frozen (p:=⟨w1.heap.size,0,none⟩) tq5;simp [go_sem, *] at f2_1_0_0)
 try (have e2_1_0_1:=hb2.cell (p:=⟨w1.heap.size,1,none⟩) tq5;simp [go_sem, *] at e2_1_0_1)
 try (have f2_1_0_1:=hb2.frozen (p:=⟨w1.heap.size,1,none⟩) tq5;simp [go_sem, *] at f2_1_0_1)
 have HB2:=bel_step (w:=w) tq6 hb2
 clear hb2
 go_wp2_with fail
 refine (trimRight_no T _ hD.bT oM).mono ?_;rintro e w3 ⟨rfl,hb3⟩
 have s3:=hb3.size;try simp at s3
 try (have:w.heap.size<w3.heap.size:=oM)
 try (have:w.heap.size<w3.heap.size+1:=oM)
 try (have:w.heap.size<w3.heap.size+1+1:=oM)
 try (have:w.heap.size+1<w3.heap.size:=oM)
 try (have:w.heap.size+1<w3.heap.size+1:=oM)
 try (have:w.heap.size+1<w3.heap.size+1+1:=oM)
 try (have:w1.heap.size<w3.heap.size:=oM)
 try (have:w1.heap.size<w3.heap.size+1:=oM)
 try (have:w1.heap.size<w3.heap.size+1+1:=oM)
 try (have e3_0_0_0:=hb3.cell (p:=⟨w.heap.size,0,none⟩) tq5;simp [go_sem, *] at e3_0_0_0)
 try (have f3_0_0_0:=hb3.frozen (p:=⟨w.heap.size,0,none⟩) tq5;simp [go_sem, *] at f3_0_0_0)
 try (have e3_0_0_1:=hb3.cell (p:=⟨w.heap.size,1,none⟩) tq5;simp [go_sem, *] at e3_0_0_1)
 try (have f3_0_0_1:=hb3.frozen (p:=⟨w.heap.size,1,none⟩) tq5;simp [go_sem, *] at f3_0_0_1)
 try (have e3_0_1_0:=hb3.cell (p:=⟨w.heap.size+1,0,none⟩) tq5;simp [go_sem, *] at e3_0_1_0)
 try (have f3_0_1_0:=hb3.frozen (p:=⟨w.heap.size+1,0,none⟩) tq5;simp [go_sem, *] at f3_0_1_0)
 try (have e3_0_1_1:=hb3.cell (p:=⟨w.heap.size+1,1,none⟩) tq5;simp [go_sem, *] at e3_0_1_1)
 try (have f3_0_1_1:=hb3.frozen (p:=⟨w.heap.size+1,1,none⟩) tq5;simp [go_sem, *] at f3_0_1_1)
 try (have e3_1_0_0:=hb3.cell (p:=⟨w1.heap.size,0,none⟩) tq5;simp [go_sem, *] at e3_1_0_0)
 try (have f3_1_0_0:=hb3.frozen (p:=⟨w1.heap.size,0,none⟩) tq5;simp [go_sem, *] at f3_1_0_0)
 try (have e3_1_0_1:=hb3.cell (p:=⟨w1.heap.size,1,none⟩) tq5;simp [go_sem, *] at e3_1_0_1)
 try (have f3_1_0_1:=hb3.frozen (p:=⟨w1.heap.size,1,none⟩) tq5;simp [go_sem, *] at f3_1_0_1)
 have HB3:=bel_step (w:=w) tq6 hb3
 clear hb3
 go_wp2_with fail
 try simp only [Exit.inBlock,Exit.then]
 refine bodyPost_ret (v:=.agg #[.int .i64 0,.int .i64 (n:Nat)]) (by simp [results,results48,go_sem, *,hs]) rfl ⟨rfl,tq6⟩
theorem span_1(p n L:Nat)(T V:ByteArray)(hD:Doc T V n L)(w:World)(h:Ix w p T n): Calls prog 48 #[.agg #[.pointer (some ⟨p,0,none⟩),.int .i64 1]] w fun e w'=>e=.returned (.agg #[.int .i64 1,.int .i64 (L:Nat)])∧Below w.heap.size w w':=by
 have hn:=hD.n3
 have hn1:=hD.n1
 have hL:=hD.hL
 have hs:=hD.hn
 have hv:=hD.vs
 have hTx:=xtext_q p n L T V hD w h
 have hsl:=hD.cut
 go_enter func48,ntmps48
 go_wp2_with fail
 refine (zone_1 p n L T V hD _ (h.below tq6)).mono ?_;rintro e w1 ⟨rfl,hb1⟩
 have s1:=hb1.size;try simp at s1
 try (have:w.heap.size<w1.heap.size:=oM)
 try (have:w.heap.size<w1.heap.size+1:=oM)
 try (have:w.heap.size<w1.heap.size+1+1:=oM)
 try (have:w.heap.size+1<w1.heap.size:=oM)
 try (have:w.heap.size+1<w1.heap.size+1:=oM)
 try (have:w.heap.size+1<w1.heap.size+1+1:=oM)
 try (have:w.heap.size+2<w1.heap.size:=oM)
 try (have:w.heap.size+2<w1.heap.size+1:=oM)
 try (have:w.heap.size+2<w1.heap.size+1+1:=oM)
 try (have:w.heap.size+3<w1.heap.size:=oM)
 try (have:w.heap.size+3<w1.heap.size+1:=oM)
 try (have:w.heap.size+3<w1.heap.size+1+1:=oM)
 try (have e1_0_0_0:=hb1.cell (p:=⟨w.heap.size,0,none⟩) tq5;simp [go_sem, *] at e1_0_0_0)
 try (have f1_0_0_0:=hb1.frozen (p:=⟨w.heap.size,0,none⟩) tq5;simp [go_sem, *] at f1_0_0_0)
 try (have e1_0_0_1:=hb1.cell (p:=⟨w.heap.size,1,none⟩) tq5;simp [go_sem, *] at e1_0_0_1)
 try (have f1_0_0_1:=hb1.frozen (p:=⟨w.heap.size,1,none⟩) tq5;simp [go_sem, *] at f1_0_0_1)
 try (have e1_0_1_0:=hb1.cell (p:=⟨w.heap.size+1,0,none⟩) tq5;simp [go_sem, *] at e1_0_1_0)
 try (have f1_0_1_0:=hb1.frozen (p:=⟨w.heap.size+1,0,none⟩) tq5;simp [go_sem, *] at f1_0_1_0)
 try (have e1_0_1_1:=hb1.cell (p:=⟨w.heap.size+1,1,none⟩) tq5;simp [go_sem, *] at e1_0_1_1)
 try (have f1_0_1_1:=hb1.frozen (p:=⟨w.heap.size+1,1,none⟩) tq5;simp [go_sem, *] at f1_0_1_1)
 try (have e1_0_2_0:=hb1.cell (p:=⟨w.heap.size+2,0,none⟩) tq5;simp [go_sem, *] at e1_0_2_0)
 try (have f1_0_2_0:=hb1.frozen (p:=⟨w.heap.size+2,0,none⟩) tq5;simp [go_sem, *] at f1_0_2_0)
 try (have e1_0_2_1:=hb1.cell (p:=⟨w.heap.size+2,1,none⟩) tq5;simp [go_sem, *] at e1_0_2_1)
 try (have f1_0_2_1:=hb1.frozen (p:=⟨w.heap.size+2,1,none⟩) tq5;simp [go_sem, *] at f1_0_2_1)
 try (have e1_0_3_0:=hb1.cell (p:=⟨w.heap.size+3,0,none⟩) tq5;simp [go_sem, *] at e1_0_3_0)
 try (have f1_0_3_0:=hb1.frozen (p:=⟨w.heap.size+3,0,none⟩) tq5;simp [go_sem, *] at f1_0_3_0)
 try (have e1_0_3_1:=hb1.cell (p:=⟨w.heap.size+3,1,none⟩) tq5;simp [go_sem, *] at e1_0_3_1)
 try (have f1_0_3_1:=hb1.frozen (p:=⟨w.heap.size+3,1,none⟩) tq5;simp [go_sem, *] at f1_0_3_1)
 have HB1:=bel_step (w:=w) tq6 hb1
 clear hb1
 go_wp2_with fail
 go_quiet ((first|(go_at_call 89;exact quiet_ex (hTx _ tq6))))
 go_wp2_with fail
 refine (trimLeft_no V _ hD.bV).mono ?_;rintro e w2 ⟨rfl,hb2⟩
 have s2:=hb2.size;try simp at s2
 try (have:w.heap.size<w2.heap.size:=oM)
 try (have:w.heap.size<w2.heap.size+1:=oM)
 try (have:w.heap.size<w2.heap.size+1+1:=oM)
 try (have:w.heap.size+1<w2.heap.size:=oM)
 try (have:w.heap.size+1<w2.heap.size+1:=oM)
 try (have:w.heap.size+1<w2.heap.size+1+1:=oM)
 try (have:w1.heap.size<w2.heap.size:=oM)
 try (have:w1.heap.size<w2.heap.size+1:=oM)
 try (have:w1.heap.size<w2.heap.size+1+1:=oM)
 try (have e2_0_0_0:=hb2.cell (p:=⟨w.heap.size,0,none⟩) tq5;simp [go_sem, *] at e2_0_0_0)
 try (have f2_0_0_0:=hb2.frozen (p:=⟨w.heap.size,0,none⟩) tq5;simp [go_sem, *] at f2_0_0_0)
 try (have e2_0_0_1:=hb2.cell (p:=⟨w.heap.size,1,none⟩) tq5;simp [go_sem, *] at e2_0_0_1)
 try (have f2_0_0_1:=hb2.frozen (p:=⟨w.heap.size,1,none⟩) tq5;simp [go_sem, *] at f2_0_0_1)
 try (have e2_0_1_0:=hb2.cell (p:=⟨w.heap.size+1,0,none⟩) tq5;simp [go_sem, *] at e2_0_1_0)
 try (have f2_0_1_0:=hb2.frozen (p:=⟨w.heap.size+1,0,none⟩) tq5;simp [go_sem, *] at f2_0_1_0)
 try (have e2_0_1_1:=hb2.cell (p:=⟨w.heap.size+1,1,none⟩) tq5;simp [go_sem, *] at e2_0_1_1)
 try (have f2_0_1_1:=hb2.frozen (p:=⟨w.heap.size+1,1,none⟩) tq5;simp [go_sem, *] at f2_0_1_1)
 try (have e2_1_0_0:=hb2.cell (p:=⟨w1.heap.size,0,none⟩) tq5;simp [go_sem, *] at e2_1_0_0)
 try (have f2_1_0_0:=hb2.frozen (p:=⟨w1.heap.size,0,none⟩) tq5;simp [go_sem, *] at f2_1_0_0)
 try (have e2_1_0_1:=hb2.cell (p:=⟨w1.heap.size,1,none⟩) tq5;simp [go_sem, *] at e2_1_0_1)
 try (have f2_1_0_1:=hb2.frozen (p:=⟨w1.heap.size,1,none⟩) tq5;simp [go_sem, *] at f2_1_0_1)
 have HB2:=bel_step (w:=w) tq6 hb2
 clear hb2
 go_wp2_with fail
 refine (trimRight_no V _ hD.bV oM).mono ?_;rintro e w3 ⟨rfl,hb3⟩
 have s3:=hb3.size;try simp at s3
 try (have:w.heap.size<w3.heap.size:=oM)
 try (have:w.heap.size<w3.heap.size+1:=oM)
 try (have:w.heap.size<w3.heap.size+1+1:=oM)
 try (have:w.heap.size+1<w3.heap.size:=oM)
 try (have:w.heap.size+1<w3.heap.size+1:=oM)
 try (have:w.heap.size+1<w3.heap.size+1+1:=oM)
 try (have:w1.heap.size<w3.heap.size:=oM)
 try (have:w1.heap.size<w3.heap.size+1:=oM)
 try (have:w1.heap.size<w3.heap.size+1+1:=oM)
 try (have e3_0_0_0:=hb3.cell (p:=⟨w.heap.size,0,none⟩) tq5;simp [go_sem, *] at e3_0_0_0)
 try (have f3_0_0_0:=hb3.frozen (p:=⟨w.heap.size,0,none⟩) tq5;simp [go_sem, *] at f3_0_0_0)
 try (have e3_0_0_1:=hb3.cell (p:=⟨w.heap.size,1,none⟩) tq5;simp [go_sem, *] at e3_0_0_1)
 try (have f3_0_0_1:=hb3.frozen (p:=⟨w.heap.size,1,none⟩) tq5;simp [go_sem, *] at f3_0_0_1)
 try (have e3_0_1_0:=hb3.cell (p:=⟨w.heap.size+1,0,none⟩) tq5;simp [go_sem, *] at e3_0_1_0)
 try (have f3_0_1_0:=hb3.frozen (p:=⟨w.heap.size+1,0,none⟩) tq5;simp [go_sem, *] at f3_0_1_0)
 try (have e3_0_1_1:=hb3.cell (p:=⟨w.heap.size+1,1,none⟩) tq5;simp [go_sem, *] at e3_0_1_1)
 try (have f3_0_1_1:=hb3.frozen (p:=⟨w.heap.size+1,1,none⟩) tq5;simp [go_sem, *] at f3_0_1_1)
 try (have e3_1_0_0:=hb3.cell (p:=⟨w1.heap.size,0,none⟩) tq5;simp [go_sem, *] at e3_1_0_0)
 try (have f3_1_0_0:=hb3.frozen (p:=⟨w1.heap.size,0,none⟩) tq5;simp [go_sem, *] at f3_1_0_0)
 try (have e3_1_0_1:=hb3.cell (p:=⟨w1.heap.size,1,none⟩) tq5;simp [go_sem, *] at e3_1_0_1)
 try (have f3_1_0_1:=hb3.frozen (p:=⟨w1.heap.size,1,none⟩) tq5;simp [go_sem, *] at f3_1_0_1)
 have HB3:=bel_step (w:=w) tq6 hb3
 clear hb3
 go_wp2_with fail
 try simp only [Exit.inBlock,Exit.then]
 refine bodyPost_ret (v:=.agg #[.int .i64 1,.int .i64 (L:Nat)]) (by simp [results,results48,go_sem, *];omega) rfl ⟨rfl,tq6⟩
theorem raw_r(p n L:Nat)(T V:ByteArray)(hD:Doc T V n L)(w:World)(h:Ix w p T n): Calls prog 96 #[.agg #[.pointer (some ⟨p,0,none⟩),.int .i64 (-1)]] w fun e w'=>e=.returned (.string T)∧Below w.heap.size w w':=by
 have hn:=hD.n3
 have hn1:=hD.n1
 have hL:=hD.hL
 have hs:=hD.hn
 have hv:=hD.vs
 have hTx:=xtext_q p n L T V hD w h
 have hsl:=hD.all
 go_enter func96,ntmps96
 go_wp2_with fail
 refine (span_r p n L T V hD _ (h.below tq6)).mono ?_;rintro e w1 ⟨rfl,hb1⟩
 have s1:=hb1.size;try simp at s1
 try (have:w.heap.size<w1.heap.size:=oM)
 try (have:w.heap.size<w1.heap.size+1:=oM)
 try (have:w.heap.size<w1.heap.size+1+1:=oM)
 try (have:w.heap.size+1<w1.heap.size:=oM)
 try (have:w.heap.size+1<w1.heap.size+1:=oM)
 try (have:w.heap.size+1<w1.heap.size+1+1:=oM)
 try (have:w.heap.size+2<w1.heap.size:=oM)
 try (have:w.heap.size+2<w1.heap.size+1:=oM)
 try (have:w.heap.size+2<w1.heap.size+1+1:=oM)
 try (have e1_0_0_0:=hb1.cell (p:=⟨w.heap.size,0,none⟩) tq5;simp [go_sem, *] at e1_0_0_0)
 try (have f1_0_0_0:=hb1.frozen (p:=⟨w.heap.size,0,none⟩) tq5;simp [go_sem, *] at f1_0_0_0)
 try (have e1_0_0_1:=hb1.cell (p:=⟨w.heap.size,1,none⟩) tq5;simp [go_sem, *] at e1_0_0_1)
 try (have f1_0_0_1:=hb1.frozen (p:=⟨w.heap.size,1,none⟩) tq5;simp [go_sem, *] at f1_0_0_1)
 try (have e1_0_1_0:=hb1.cell (p:=⟨w.heap.size+1,0,none⟩) tq5;simp [go_sem, *] at e1_0_1_0)
 try (have f1_0_1_0:=hb1.frozen (p:=⟨w.heap.size+1,0,none⟩) tq5;simp [go_sem, *] at f1_0_1_0)
 try (have e1_0_1_1:=hb1.cell (p:=⟨w.heap.size+1,1,none⟩) tq5;simp [go_sem, *] at e1_0_1_1)
 try (have f1_0_1_1:=hb1.frozen (p:=⟨w.heap.size+1,1,none⟩) tq5;simp [go_sem, *] at f1_0_1_1)
 try (have e1_0_2_0:=hb1.cell (p:=⟨w.heap.size+2,0,none⟩) tq5;simp [go_sem, *] at e1_0_2_0)
 try (have f1_0_2_0:=hb1.frozen (p:=⟨w.heap.size+2,0,none⟩) tq5;simp [go_sem, *] at f1_0_2_0)
 try (have e1_0_2_1:=hb1.cell (p:=⟨w.heap.size+2,1,none⟩) tq5;simp [go_sem, *] at e1_0_2_1)
 try (have f1_0_2_1:=hb1.frozen (p:=⟨w.heap.size+2,1,none⟩) tq5;simp [go_sem, *] at f1_0_2_1)
 have HB1:=bel_step (w:=w) tq6 hb1
 clear hb1
 go_wp2_with fail
 go_quiet ((first|(go_at_call 89;exact quiet_ex (hTx _ tq6))))
 go_wp2_with fail
 go_ret
 exact ⟨rfl,tq6⟩
theorem raw_1(p n L:Nat)(T V:ByteArray)(hD:Doc T V n L)(w:World)(h:Ix w p T n): Calls prog 96 #[.agg #[.pointer (some ⟨p,0,none⟩),.int .i64 1]] w fun e w'=>e=.returned (.string V)∧Below w.heap.size w w':=by
 have hn:=hD.n3
 have hn1:=hD.n1
 have hL:=hD.hL
 have hs:=hD.hn
 have hv:=hD.vs
 have hTx:=xtext_q p n L T V hD w h
 have hsl:=hD.cut
 go_enter func96,ntmps96
 go_wp2_with fail
 refine (span_1 p n L T V hD _ (h.below tq6)).mono ?_;rintro e w1 ⟨rfl,hb1⟩
 have s1:=hb1.size;try simp at s1
 try (have:w.heap.size<w1.heap.size:=oM)
 try (have:w.heap.size<w1.heap.size+1:=oM)
 try (have:w.heap.size<w1.heap.size+1+1:=oM)
 try (have:w.heap.size+1<w1.heap.size:=oM)
 try (have:w.heap.size+1<w1.heap.size+1:=oM)
 try (have:w.heap.size+1<w1.heap.size+1+1:=oM)
 try (have:w.heap.size+2<w1.heap.size:=oM)
 try (have:w.heap.size+2<w1.heap.size+1:=oM)
 try (have:w.heap.size+2<w1.heap.size+1+1:=oM)
 try (have e1_0_0_0:=hb1.cell (p:=⟨w.heap.size,0,none⟩) tq5;simp [go_sem, *] at e1_0_0_0)
 try (have f1_0_0_0:=hb1.frozen (p:=⟨w.heap.size,0,none⟩) tq5;simp [go_sem, *] at f1_0_0_0)
 try (have e1_0_0_1:=hb1.cell (p:=⟨w.heap.size,1,none⟩) tq5;simp [go_sem, *] at e1_0_0_1)
 try (have f1_0_0_1:=hb1.frozen (p:=⟨w.heap.size,1,none⟩) tq5;simp [go_sem, *] at f1_0_0_1)
 try (have e1_0_1_0:=hb1.cell (p:=⟨w.heap.size+1,0,none⟩) tq5;simp [go_sem, *] at e1_0_1_0)
 try (have f1_0_1_0:=hb1.frozen (p:=⟨w.heap.size+1,0,none⟩) tq5;simp [go_sem, *] at f1_0_1_0)
 try (have e1_0_1_1:=hb1.cell (p:=⟨w.heap.size+1,1,none⟩) tq5;simp [go_sem, *] at e1_0_1_1)
 try (have f1_0_1_1:=hb1.frozen (p:=⟨w.heap.size+1,1,none⟩) tq5;simp [go_sem, *] at f1_0_1_1)
 try (have e1_0_2_0:=hb1.cell (p:=⟨w.heap.size+2,0,none⟩) tq5;simp [go_sem, *] at e1_0_2_0)
 try (have f1_0_2_0:=hb1.frozen (p:=⟨w.heap.size+2,0,none⟩) tq5;simp [go_sem, *] at f1_0_2_0)
 try (have e1_0_2_1:=hb1.cell (p:=⟨w.heap.size+2,1,none⟩) tq5;simp [go_sem, *] at e1_0_2_1)
 try (have f1_0_2_1:=hb1.frozen (p:=⟨w.heap.size+2,1,none⟩) tq5;simp [go_sem, *] at f1_0_2_1)
 have HB1:=bel_step (w:=w) tq6 hb1
 clear hb1
 go_wp2_with fail
 go_quiet ((first|(go_at_call 89;exact quiet_ex (hTx _ tq6))))
 go_wp2_with fail
 go_ret
 exact ⟨rfl,tq6⟩
end
namespace Tx
set_option maxRecDepth 100000
open Go.RowKit Go.Proofs.Lw
theorem ret_i64{a b:Int}(h:a=b): Ending.returned (.int .i64 a)=.returned (.int .i64 b):=by rw [h]
theorem first_any(b:Int)(w:World)(h0:0≤b)(h1:b≤255):
  Calls prog 264 #[.int .u8 b] w fun e w'=>e=.returned (.int .i64 (ufirst b))∧w=w':=by
 go_enter func264,ntmps264
 go_wp2
 all_goals
  go_ret
  go_light
  refine ⟨ret_i64 ?_,rfl⟩
  try simp only [beq_iff_eq,beq_eq_false_iff_ne,ne_eq] at *
  unfold ufirst
  repeat' split
  all_goals omega
theorem step_any(st b:Int)(w:World)(h0:0≤b)(h1:b≤255):
  Calls prog 200 #[.int .i64 st,.int .u8 b] w fun e w'=>e=.returned (.int .i64 (ustep st b))∧w=w':=by
 go_enter func200,ntmps200
 go_wp2_with (go_at_call 264;refine (first_any _ _ oM oM).mono ?_;rintro e w' ⟨rfl,rfl⟩)
 all_goals
  go_ret
  go_light
  refine ⟨ret_i64 ?_,rfl⟩
  try simp only [beq_iff_eq,beq_eq_false_iff_ne,ne_eq] at *
  try rw [IntWalk.wrap64_in _ ⟨by omega,by omega⟩]
  unfold ustep ulow uhigh unext
  (repeat' split) <;> first|rfl|omega
theorem i64_and63(n:Int): bits .and .i64 n 63=n % 64:=by
 have h127:(BitVec.ofInt 64 63).toNat=2 ^ 6-1:=by decide
 have key:(BitVec.ofInt 64 n &&& BitVec.ofInt 64 63).toNat=(n % ((2 ^ 64:Nat):Int)).toNat % 2 ^ 6:=by
  rw [BitVec.toNat_and,BitVec.toNat_ofInt,h127,Nat.and_two_pow_sub_one_eq_mod]
 show IntKind.i64.wrap ((BitVec.ofInt 64 n &&& BitVec.ofInt 64 63).toNat:Nat)=n % 64
 rw [key,IntKind.wrap_i64]
 omega
theorem ofInt_64(a:Nat)(ha:a<18446744073709551616): (BitVec.ofInt 64 (a:Int)).toNat=a:=by
 rw [BitVec.toNat_ofInt];omega
theorem i64_or_nat(a b:Nat)(ha:a<9223372036854775808)(hb:b<9223372036854775808): bits .or .i64 (a:Int) (b:Int)=((a ||| b:Nat):Int):=by
 have:a ||| b<2 ^ 63:=Nat.or_lt_two_pow ha hb
 show IntKind.i64.wrap ((BitVec.ofInt 64 (a:Int) ||| BitVec.ofInt 64 (b:Int)).toNat:Nat)=_
 rw [BitVec.toNat_or,ofInt_64 _ (by omega),ofInt_64 _ (by omega),IntKind.wrap_i64]
 omega
theorem i64_join(i:Nat)(x y:Int)(hx0:0≤x)(hx:x<9223372036854775808)(h0:0≤y)(hi:y<2 ^ i)(hy:y<9223372036854775808)(hm:x % 2 ^ i=0): bits .or .i64 x y=x+y:=by
 obtain ⟨a,rfl⟩ :=Int.eq_ofNat_of_zero_le hx0
 obtain ⟨b,rfl⟩ :=Int.eq_ofNat_of_zero_le h0
 have h1:b<2 ^ i:=by exact_mod_cast hi
 have h2:a % 2 ^ i=0:=by exact_mod_cast hm
 rw [i64_or_nat _ _ (by omega) (by omega),nat_join i a b h2 h1];rfl
theorem lead_any(b:Int)(w:World)(h0:0≤b)(h1:b≤255):
  Calls prog 319 #[.int .u8 b] w fun e w'=>e=.returned (.int .i64 (ulead b))∧w=w':=by
 go_enter func319,ntmps319
 go_wp2
 all_goals
  go_ret
  refine ⟨ret_i64 ?_,rfl⟩
  go_light
  unfold ulead
  (repeat' split) <;> first|rfl|omega
theorem tail_any(c:Int)(w:World):
  Calls prog 300 #[.int .i64 c] w fun e w'=>e=.returned (.int .u8 (128+c % 64))∧w=w':=by
 have e:bits .or .i64 128 (c % 64) % 256=128+c % 64:=by
  rw [i64_join 6 128 (c % 64) (by omega) (by omega) (by omega) (by omega) (by omega) (by omega)];omega
 have e0:=i64_and63 c
 go_enter func300,ntmps300
 go_wp2
 go_ret
 exact ⟨by show Ending.returned (.int .u8 (bits .or .i64 128 (c % 64) % 256))=_;rw [e],rfl⟩
theorem conv_new(w:World)(xs:List Int)(n:Nat)(hn:xs.length=n):
  (convert 50 9 (.slice (some ⟨w.heap.size,0,none⟩) n n)).run prog (w.alloc (.cells (xs.map (Value.int .u8)).toArray 5))=.ok (.string (strOfNums xs)) (w.alloc (.cells (xs.map (Value.int .u8)).toArray 5)):=by
 refine run_convert_bytes_arg _ 50 5 underlying50 underlying5 w.heap.size 0 n n xs hn ?_ 9 underlying9
 intro i hi
 have hi':i<xs.length:=oM
 rw [World.cell?_alloc_new]
 simp [List.getD,List.getElem?_eq_getElem hi']
theorem put_0(c:Int)(w:World)(h:c<0∨1114111<c∨55296≤c∧c≤57343):
  Calls prog 240 #[.int .i64 c] w fun e w'=>e=.returned (.string (strOfNums []))∧Below w.heap.size w w':=by
 rcases h with h|h|⟨h,h'⟩
 all_goals
  go_enter func240,ntmps240
  go_wp2
  go_ret
  exact ⟨rfl,qR⟩
theorem put_1(c:Int)(w:World)(h0:0≤c)(h1:c<128):
  Calls prog 240 #[.int .i64 c] w fun e w'=>e=.returned (.string (strOfNums [c]))∧Below w.heap.size w w':=by
 have hk:=conv_new w [c] 1 rfl
 simp only [List.map_cons,List.map_nil] at hk
 go_enter func240,ntmps240
 go_wp2
 go_ret
 exact ⟨rfl,qR.alloc qL _⟩
theorem put_2(c:Int)(w:World)(h0:128≤c)(h1:c<2048):
  Calls prog 240 #[.int .i64 c] w fun e w'=>e=.returned (.string (strOfNums [192+c / 64,128+c % 64]))∧Below w.heap.size w w':=by
 have hk:=conv_new w [192+c / 64,128+c % 64] 2 rfl
 simp only [List.map_cons,List.map_nil] at hk
 have e:bits .or .i64 192 (c / 64) % 256=192+c / 64:=by
  rw [i64_join 5 192 (c / 64) (by omega) (by omega) (by omega) (by omega) (by omega) (by omega)];omega
 go_enter func240,ntmps240
 go_wp2_with (go_at_call 300;refine (tail_any _ _).mono ?_;rintro e w' ⟨rfl,rfl⟩)
 go_ret
 exact ⟨rfl,qR.alloc qL _⟩
theorem put_3(c:Int)(w:World)(h0:2048≤c)(h1:c<65536)(h2:c<55296∨57343<c):
  Calls prog 240 #[.int .i64 c] w fun e w'=>e=.returned (.string (strOfNums [224+c / 4096,128+c / 64 % 64,128+c % 64]))∧Below w.heap.size w w':=by
 have hk:=conv_new w [224+c / 4096,128+c / 64 % 64,128+c % 64] 3 rfl
 simp only [List.map_cons,List.map_nil] at hk
 have e:bits .or .i64 224 (c / 4096) % 256=224+c / 4096:=by
  rw [i64_join 4 224 (c / 4096) (by omega) (by omega) (by omega) (by omega) (by omega) (by omega)];omega
 rcases h2 with h2|h2
 all_goals
  go_enter func240,ntmps240
  go_wp2_with (go_at_call 300;refine (tail_any _ _).mono ?_;rintro e w' ⟨rfl,rfl⟩)
  go_ret
  exact ⟨rfl,qR.alloc qL _⟩
theorem put_4(c:Int)(w:World)(h0:65536≤c)(h1:c≤1114111):
  Calls prog 240 #[.int .i64 c] w fun e w'=>e=.returned (.string (strOfNums [240+c / 262144,128+c / 4096 % 64,128+c / 64 % 64,128+c % 64]))∧Below w.heap.size w w':=by
 have hk:=conv_new w [240+c / 262144,128+c / 4096 % 64,128+c / 64 % 64,128+c % 64] 4 rfl
 simp only [List.map_cons,List.map_nil] at hk
 have e:bits .or .i64 240 (c / 262144) % 256=240+c / 262144:=by
  rw [i64_join 3 240 (c / 262144) (by omega) (by omega) (by omega) (by omega) (by omega) (by omega)];omega
 go_enter func240,ntmps240
 go_wp2_with (go_at_call 300;refine (tail_any _ _).mono ?_;rintro e w' ⟨rfl,rfl⟩)
 go_ret
 exact ⟨rfl,qR.alloc qL _⟩
theorem put_any(c:Int)(w:World):
  Calls prog 240 #[.int .i64 c] w fun e w'=>e=.returned (.string (strOfNums (putN c)))∧Below w.heap.size w w':=by
 unfold putN
 by_cases h:c<0∨1114111<c∨55296≤c∧c≤57343
 ·rw [if_pos h];exact put_0 c w h
 ·rw [if_neg h]
  by_cases h1:c<128
  ·rw [if_pos h1];exact put_1 c w oM h1
  ·rw [if_neg h1]
   by_cases h2:c<2048
   ·rw [if_pos h2];exact put_2 c w oM h2
   ·rw [if_neg h2]
    by_cases h3:c<65536
    ·rw [if_pos h3];exact put_3 c w oM h3 oM
    ·rw [if_neg h3];exact put_4 c w oM oM
end Tx
end Go.Proofs.YtjcioljdlfdnbaaGreatDoor
section
namespace Go.Proofs.Lw
def urun (st:Int):List UInt8→Int
 | []=>st
 | b::l=>urun (ustep st b.toNat) l
theorem urun_append(st:Int)(l m:List UInt8): urun st (l++m)=urun (urun st l) m:=by
 induction l generalizing st with
 | nil=>rfl
 | cons b l ih=>simp only [List.cons_append,urun];exact ih _
def uright (l:List UInt8):Bool:=urun 0 l==0
def ulive (st:Int):List UInt8→Nat
 | []=>0
 | b::l=>if ustep st b.toNat=8 then 0 else ulive (ustep st b.toNat) l+1
def Lives (st:Int):List UInt8→Prop
 | []=>True
 | b::l=>ustep st b.toNat≠8∧Lives (ustep st b.toNat) l
theorem ustep_dead(b:UInt8): ustep 8 b.toNat=8:=by
 simp [ustep,unext]
theorem urun_dead(l:List UInt8): urun 8 l=8:=by
 induction l with
 | nil=>rfl
 | cons b l ih=>rw [urun,ustep_dead,ih]
theorem take_snoc(s:ByteArray)(k:Nat)(h:k<s.size): s.data.toList.take (k+1)=s.data.toList.take k++[s[k]]:=by
 rw [List.take_succ_eq_append_getElem (by simpa using h)];rfl
theorem urun_snoc(st:Int)(s:ByteArray)(k:Nat)(h:k<s.size): urun st (s.data.toList.take (k+1))=ustep (urun st (s.data.toList.take k)) s[k].toNat:=by
 rw [take_snoc s k h,urun_append];rfl
theorem drop_cons(s:ByteArray)(k:Nat)(h:k<s.size): s.data.toList.drop k=s[k]::s.data.toList.drop (k+1):=by
 rw [List.drop_eq_getElem_cons (by simpa using h)];rfl
end Go.Proofs.Lw
end
namespace Go.Proofs.YtjcioljdlfdnbaaGreatDoor
namespace Tx
set_option maxRecDepth 100000
open Go.RowKit Go.Proofs.Lw
theorem u8_le(b:UInt8): 0≤(b.toNat:Int)∧(b.toNat:Int)≤255:=by have:=b.toNat_lt;omega
theorem right_any(s:ByteArray)(w:World)(hs:s.size≤maxLen):
  Calls prog 301 #[.string s] w fun e w'=>e=.returned (.bool (uright s.data.toList))∧w=w':=by
 unfold maxLen at hs
 go_enter func301,ntmps301
 go_wp2
 go_loop [3,7] (fun st i=>∃k:Nat,k≤s.size∧st=.int .i64 (urun 0 (s.data.toList.take k))∧i=.int .i64 k) (fun _ i=>s.size-(intOf i).toNat)
 case atStart=>exact ⟨0,Nat.zero_le _,rfl,rfl⟩
 case round=>
  obtain ⟨k,hk,rfl,rfl⟩ :=hrel
  by_cases hlt:k<s.size
  ·have hb:=u8_le s[k]
   have HS:=hid (urun_snoc 0 s k hlt)
   go_wp2_with (go_at_call 200;refine (step_any _ _ _ oM oM).mono ?_;rintro e w' ⟨rfl,rfl⟩)
   go_round
   case rel=>exact ⟨k+1,by omega,by rw [HS.out],by go_num⟩
   case measure=>simp [intOf];omega
  ·have HS:Hid (urun 0 (s.data.toList.take k)=urun 0 s.data.toList):=hid (by rw [List.take_of_length_le (by simp;omega)])
   go_wp2
   go_ret
   exact ⟨by show Ending.returned (.bool (urun 0 (s.data.toList.take k)==0))=_;rw [HS.out];rfl,rfl⟩
end Tx
end Go.Proofs.YtjcioljdlfdnbaaGreatDoor
section
namespace Go.Proofs.Lw
def ufirstC (b:Int):Int:=if b<128 then b else if b<224 then b % 32 else if b<240 then b % 16 else b % 8
def uscalS (st c:Int) (i:Nat):List UInt8→Int × Nat
 | []=>(0,0)
 | b::l=>
  if ustep st b.toNat=8 then (0,0)
  else
   let c':Int:=if 0<i then c * 64+(b.toNat:Int) % 64 else ufirstC b.toNat
   if ustep st b.toNat=0 then (c',i+1) else uscalS (ustep st b.toNat) c' (i+1) l
def uscal (l:List UInt8):Int × Nat:=uscalS 0 0 0 l
def UInv (k:Nat) (st c:Int):Prop:=
 (k=0∧st=0∧c=0)∨(k=1∧1≤st∧st≤7∧0≤c∧c<64)∨(k=2∧(st=1∨st=2)∧0≤c∧c<4096)∨(k=3∧st=1∧0≤c∧c<262144)
theorem UInv.bd{k:Nat}{st c:Int}(h:UInv k st c): 0≤c∧c<262144∧k≤3:=by unfold UInv at h;omega
theorem UInv.pos{k:Nat}{st c:Int}(h:UInv k st c)(hk:k≠0): 1≤st∧st≤7:=by unfold UInv at h;omega
theorem UInv.zero{k:Nat}{st c:Int}(h:UInv k st c)(hk:k=0): st=0∧c=0:=by unfold UInv at h;omega
theorem ufirst_range(b:Int): 0≤ufirst b∧ufirst b≤8:=by unfold ufirst;(repeat' split) <;> omega
theorem ufirstC_range(b:Int)(h1:ufirst b≠0): 0≤ufirstC b∧ufirstC b<64:=by
 unfold ufirstC
 by_cases h2:b<128
 ·exact absurd (by unfold ufirst;rw [if_pos h2]) h1
 ·rw [if_neg h2];(repeat' split) <;> omega
theorem UInv.step0(b:Int)(h8:ustep 0 b≠8)(h0:ustep 0 b≠0): UInv 1 (ustep 0 b) (ufirstC b):=by
 have e:ustep 0 b=ufirst b:=by simp [ustep]
 rw [e] at h8 h0 ⊢
 have:=ufirst_range b
 have:=ufirstC_range b h0
 unfold UInv;omega
theorem UInv.step{k:Nat}{st c:Int}(h:UInv k st c)(hk:k≠0)(b:Int)(h8:ustep st b≠8)(h0:ustep st b≠0): UInv (k+1) (ustep st b) (c * 64+b % 64):=by
 have e:ustep st b=unext st:=by
  have:=h.pos hk
  unfold ustep at *;rw [if_neg (by omega)] at *;split
  ·rename_i hh;rw [if_pos hh] at h8;exact absurd rfl h8
  ·rfl
 rw [e] at h8 h0 ⊢
 clear e
 unfold UInv at *
 rcases h with h|⟨h1,h2,h3,h4,h5⟩|⟨h1,h2,h3,h4⟩|⟨h1,h2,h3,h4⟩
 ·omega
 ·have hs:st=1∨st=2∨st=3∨st=4∨st=5∨st=6∨st=7:=oM
  rcases hs with rfl|rfl|rfl|rfl|rfl|rfl|rfl <;> simp [unext] at h8 h0 ⊢ <;> omega
 ·rcases h2 with rfl|rfl <;> simp [unext] at h8 h0 ⊢ <;> omega
 ·subst h2;simp [unext] at h0
theorem ustep0_hi(b:Int)(h8:ustep 0 b≠8)(hlo:¬b<128): 194≤b∧ustep 0 b≠0:=by
 have e:ustep 0 b=ufirst b:=by simp [ustep]
 rw [e] at h8 ⊢
 unfold ufirst at h8 ⊢
 rw [if_neg hlo] at h8 ⊢
 constructor
 ·by_cases hh:194≤b
  ·exact hh
  ·exfalso;apply h8
   repeat rw [if_neg (by omega)]
 ·(repeat' split) <;> omega
theorem ustep0_lo(b:Int)(hlo:b<128): ustep 0 b=0:=by
 have e:ustep 0 b=ufirst b:=by simp [ustep]
 rw [e,ufirst,if_pos hlo]
theorem uscalS_cons(st c:Int)(i:Nat)(b:UInt8)(l:List UInt8): uscalS st c i (b::l) =
  if ustep st b.toNat=8 then (0,0)
  else if ustep st b.toNat=0 then (if 0<i then c * 64+(b.toNat:Int) % 64 else ufirstC b.toNat,i+1)
  else uscalS (ustep st b.toNat) (if 0<i then c * 64+(b.toNat:Int) % 64 else ufirstC b.toNat) (i+1) l:=rfl
end Go.Proofs.Lw
end
namespace Go.Proofs.YtjcioljdlfdnbaaGreatDoor
namespace Tx
set_option maxRecDepth 100000
open Go.RowKit Go.Proofs.Lw
theorem i64_and_pow(n:Int)(k m:Nat)(hk:(BitVec.ofInt 64 (m:Int)).toNat=2 ^ k-1)(hm:2 ^ k=m+1)(h0:0≤n)(h1:n<9223372036854775808): bits .and .i64 n (m:Int)=n % ((m+1:Nat):Int):=by
 obtain ⟨a,rfl⟩ :=Int.eq_ofNat_of_zero_le h0
 have key:(BitVec.ofInt 64 (a:Int) &&& BitVec.ofInt 64 (m:Int)).toNat=a % 2 ^ k:=by
  rw [BitVec.toNat_and,ofInt_64 _ (by omega),hk,Nat.and_two_pow_sub_one_eq_mod]
 show IntKind.i64.wrap ((BitVec.ofInt 64 (a:Int) &&& BitVec.ofInt 64 (m:Int)).toNat:Nat)=_
 rw [key,IntKind.wrap_i64,hm]
 have:a % (m+1)≤a:=Nat.mod_le _ _
 have e:((a:Nat):Int) % ((m+1:Nat):Int)=((a % (m+1):Nat):Int):=(Int.natCast_emod _ _).symm
 rw [e]
 omega
theorem lead_to(b n:Int)(w:World)(h0:0≤b)(h1:b≤255)(h:Hid (ulead b=n)):
  Calls prog 319 #[.int .u8 b] w fun e w'=>e=.returned (.int .i64 n)∧w=w':=by
 rw [←h.out];exact lead_any b w h0 h1
theorem scalar_any(s:ByteArray)(w:World)(hs:s.size≤maxLen):
  Calls prog 274 #[.string s] w fun e w'=>e=.returned (.tuple #[.int .i64 (uscal s.data.toList).1,.int .i64 ((uscal s.data.toList).2:Nat)])∧w=w':=by
 unfold maxLen at hs
 go_enter func274,ntmps274
 go_wp2
 go_loop [4,5,10] (fun st c i=>∃(k:Nat) (st' c':Int),k≤s.size∧UInv k st' c'∧uscal s.data.toList=uscalS st' c' k (s.data.toList.drop k)∧st=.int .i64 st'∧c=.int .i64 c'∧i=.int .i64 k) (fun _ _ i=>s.size-(intOf i).toNat)
 case atStart=>exact ⟨0,0,0,Nat.zero_le _,.inl ⟨rfl,rfl,rfl⟩,rfl,rfl,rfl,rfl⟩
 case round=>
  obtain ⟨k,st',c',hk,hi,hu,rfl,rfl,rfl⟩ :=hrel
  obtain ⟨c0,c1,k3⟩ :=hi.bd
  have HI:=hid hi
  have HU:=hid hu
  clear hi hu
  by_cases hlt:k<s.size
  ·have hb:=u8_le s[k]
   have HD:=hid (drop_cons s k hlt)
   by_cases h8:ustep st' s[k].toNat=8
   ·have HE:Hid (uscal s.data.toList=(0,0)):=hid (by rw [HU.out,HD.out,uscalS_cons,if_pos h8])
    go_wp2_with (go_at_call 200;refine (step_any _ _ _ oM oM).mono ?_;rintro e w' ⟨rfl,rfl⟩)
    go_ret2
    exact ⟨by rw [HE.out];rfl,rfl⟩
   ·have:(ustep st' s[k].toNat==8)=false:=beq_eq_false_iff_ne.2 h8
    have H8:=hid h8
    clear h8
    by_cases hk0:k=0
    ·subst hk0
     obtain ⟨rfl,rfl⟩ :=HI.out.zero rfl
     have h80:=H8.out
     by_cases hlo:(s[0].toNat:Int)<128
     ·have h0:Hid (ustep 0 s[0].toNat=0):=hid (ustep0_lo _ hlo)
      have:ustep 0 (s[0].toNat:Int)=0:=h0.out
      have HE:Hid (uscal s.data.toList=((s[0].toNat:Int),1)):=hid (by
       rw [HU.out,HD.out,uscalS_cons,if_neg H8.out,if_pos h0.out,if_neg (by omega)];simp [ufirstC,hlo])
      clear h80
      go_wp2_with (go_at_call 200;refine (step_any _ _ _ oM oM).mono ?_;rintro e w' ⟨rfl,rfl⟩)
      go_ret2
      exact ⟨by rw [HE.out];rfl,rfl⟩
     ·have h0:(ustep 0 (s[0].toNat:Int)==0)=false:=by
       rw [beq_eq_false_iff_ne];unfold ustep ufirst;rw [if_pos rfl,if_neg hlo];(repeat' split) <;> omega
      have:194≤(s[0].toNat:Int):=(ustep0_hi _ h80 hlo).1
      have H0:Hid (¬ustep 0 (s[0].toNat:Int)=0):=hid (beq_eq_false_iff_ne.1 h0)
      have HN:Hid (uscal s.data.toList=uscalS (ustep 0 s[0].toNat) (ufirstC s[0].toNat) 1 (s.data.toList.drop 1)):=hid (by
       rw [HU.out,HD.out,uscalS_cons,if_neg H8.out,if_neg H0.out,if_neg (by omega)])
      have HI1:=hid (UInv.step0 _ H8.out H0.out)
      clear h80
      by_cases hA:(s[0].toNat:Int)<224
      ·have HL:Hid (ulead s[0].toNat=1):=hid (by unfold ulead;rw [if_neg (by omega),if_neg (by omega)])
       have HC:Hid (ufirstC s[0].toNat=(s[0].toNat:Int) % 32):=hid (by unfold ufirstC;rw [if_neg hlo,if_pos hA])
       have ea:bits .and .i64 (s[0].toNat:Int) 31=(s[0].toNat:Int) % 32:=i64_and_pow _ 5 31 (by decide) (by decide) oM oM
       go_wp2_with (first|(go_at_call 200;refine (step_any _ _ _ oM oM).mono ?_;rintro e w' ⟨rfl,rfl⟩)|(go_at_call 319;refine (lead_to _ _ _ oM oM HL).mono ?_;rintro e w' ⟨rfl,rfl⟩))
       go_round
       case rel=>exact ⟨1,_,_,by omega,HI1.out,HN.out,rfl,by rw [HC.out],rfl⟩
       case measure=>exact Nat.sub_lt_sub_left hlt (Nat.zero_lt_one)
      ·by_cases hB:(s[0].toNat:Int)<240
       ·have HL:Hid (ulead s[0].toNat=2):=hid (by unfold ulead;rw [if_neg (by omega),if_pos (by omega)])
        have HC:Hid (ufirstC s[0].toNat=(s[0].toNat:Int) % 16):=hid (by unfold ufirstC;rw [if_neg hlo,if_neg hA,if_pos hB])
        have ea:bits .and .i64 (s[0].toNat:Int) 15=(s[0].toNat:Int) % 16:=i64_and_pow _ 4 15 (by decide) (by decide) oM oM
        go_wp2_with (first|(go_at_call 200;refine (step_any _ _ _ oM oM).mono ?_;rintro e w' ⟨rfl,rfl⟩)|(go_at_call 319;refine (lead_to _ _ _ oM oM HL).mono ?_;rintro e w' ⟨rfl,rfl⟩))
        go_round
        case rel=>exact ⟨1,_,_,by omega,HI1.out,HN.out,rfl,by rw [HC.out],rfl⟩
        case measure=>exact Nat.sub_lt_sub_left hlt (Nat.zero_lt_one)
       ·have HL:Hid (ulead s[0].toNat=3):=hid (by unfold ulead;rw [if_pos (by omega)])
        have HC:Hid (ufirstC s[0].toNat=(s[0].toNat:Int) % 8):=hid (by unfold ufirstC;rw [if_neg hlo,if_neg hA,if_neg hB])
        have ea:bits .and .i64 (s[0].toNat:Int) 7=(s[0].toNat:Int) % 8:=i64_and_pow _ 3 7 (by decide) (by decide) oM oM
        go_wp2_with (first|(go_at_call 200;refine (step_any _ _ _ oM oM).mono ?_;rintro e w' ⟨rfl,rfl⟩)|(go_at_call 319;refine (lead_to _ _ _ oM oM HL).mono ?_;rintro e w' ⟨rfl,rfl⟩))
        go_round
        case rel=>exact ⟨1,_,_,by omega,HI1.out,HN.out,rfl,by rw [HC.out],rfl⟩
        case measure=>exact Nat.sub_lt_sub_left hlt (Nat.zero_lt_one)
    ·have:(0:Int)<(k:Int):=oM
     have ea:=i64_and63 (s[k].toNat:Int)
     have:bits .or .i64 (c' * 64) ((s[k].toNat:Int) % 64)=c' * 64+(s[k].toNat:Int) % 64:=
      i64_join 6 _ _ oM oM oM oM oM oM
     cases h0:(ustep st' s[k].toNat==0)
     ·have H0:Hid (¬ustep st' (s[k].toNat:Int)=0):=hid (beq_eq_false_iff_ne.1 h0)
      have HN:Hid (uscal s.data.toList=uscalS (ustep st' s[k].toNat) (c' * 64+(s[k].toNat:Int) % 64) (k+1) (s.data.toList.drop (k+1))):=hid (by
       rw [HU.out,HD.out,uscalS_cons,if_neg H8.out,if_neg H0.out,if_pos (by omega)])
      have HI1:=hid (UInv.step HI.out hk0 _ H8.out H0.out)
      go_wp2_with (go_at_call 200;refine (step_any _ _ _ oM oM).mono ?_;rintro e w' ⟨rfl,rfl⟩)
      go_round
      case rel=>exact ⟨k+1,_,_,by omega,HI1.out,HN.out,rfl,rfl,by go_num⟩
      case measure=>simp [intOf];omega
     ·have H0:Hid (ustep st' (s[k].toNat:Int)=0):=hid (beq_iff_eq.1 h0)
      have HE:Hid (uscal s.data.toList=(c' * 64+(s[k].toNat:Int) % 64,k+1)):=hid (by
       rw [HU.out,HD.out,uscalS_cons,if_neg H8.out,if_pos H0.out,if_pos (by omega)])
      go_wp2_with (go_at_call 200;refine (step_any _ _ _ oM oM).mono ?_;rintro e w' ⟨rfl,rfl⟩)
      go_ret2
      exact ⟨by rw [HE.out];rfl,rfl⟩
  ·have HE:Hid (uscal s.data.toList=(0,0)):=hid (by
    rw [HU.out,List.drop_of_length_le (by simp;omega)];rfl)
   go_wp2
   go_ret2
   exact ⟨by rw [HE.out];rfl,rfl⟩
end Tx
end Go.Proofs.YtjcioljdlfdnbaaGreatDoor
section
namespace Go.Proofs.Lw
theorem ustep_1(b:Int): ustep 1 b=if b<128∨191<b then 8 else 0:=rfl
theorem ustep_0(b:Int): ustep 0 b=ufirst b:=rfl
theorem S1(c:Int)(i:Nat)(b:UInt8)(l:List UInt8): uscalS 1 c (i+1) (b::l)=if 128≤(b.toNat:Int)∧(b.toNat:Int)≤191 then (c * 64+(b.toNat:Int) % 64,i+2) else (0,0):=by
 rw [uscalS_cons,ustep_1]
 by_cases h:128≤(b.toNat:Int)∧(b.toNat:Int)≤191
 ·rw [if_pos h,if_neg (by omega:¬((b.toNat:Int)<128∨191<(b.toNat:Int)))];simp
 ·rw [if_neg h,if_pos (by omega:((b.toNat:Int)<128∨191<(b.toNat:Int)))];simp
theorem U_0(b:UInt8)(l:List UInt8)(h:(b.toNat:Int)<128): uscal (b::l)=((b.toNat:Int),1):=by
 rw [uscal,uscalS_cons,ustep_0,show ufirst (b.toNat:Int)=0 from by unfold ufirst;rw [if_pos h]]
 simp [ufirstC,h]
def low3 (b:Int):Int:=if b=224 then 160 else 128
def high3 (b:Int):Int:=if b=237 then 159 else 191
def low4 (b:Int):Int:=if b=240 then 144 else 128
def high4 (b:Int):Int:=if b=244 then 143 else 191
def nums (l:List UInt8):List Int:=l.map fun b=>(b.toNat:Int)
def putL (c:Int):List UInt8:=(putN c).map fun n=>UInt8.ofNat n.toNat
end Go.Proofs.Lw
end
section
namespace Go.Proofs.Lw
theorem uscalS_run(l:List UInt8)(st c:Int)(i:Nat): ((uscalS st c i l).2=0∧∀j,0<j→j≤l.length→urun st (l.take j)≠0)∨
  ∃n,0<n∧n≤l.length∧(uscalS st c i l).2=i+n∧urun st (l.take n)=0∧∀j,0<j→j<n→urun st (l.take j)≠0:=by
 induction l generalizing st c i with
 | nil=>exact .inl ⟨rfl,fun j h0 h1=>by simp at h1;omega⟩
 | cons b l ih=>
  rw [uscalS_cons]
  by_cases h8:ustep st b.toNat=8
  ·rw [if_pos h8]
   refine .inl ⟨rfl,fun j h0 h1=>?_⟩
   obtain ⟨k,rfl⟩:∃k,j=k+1:=⟨j-1,by omega⟩
   rw [List.take_succ_cons,urun,h8,urun_dead];decide
  ·rw [if_neg h8]
   by_cases hz:ustep st b.toNat=0
   ·rw [if_pos hz]
    exact .inr ⟨1,by omega,by simp,rfl,by simp [urun,hz],fun j h0 h1=>oM⟩
   ·rw [if_neg hz]
    rcases ih (ustep st b.toNat) (if 0<i then c * 64+(b.toNat:Int) % 64 else ufirstC b.toNat) (i+1) with ⟨h1,h2⟩|⟨n,h1,h2,h3,h4,h5⟩
    ·refine .inl ⟨h1,fun j h0 hj=>?_⟩
     obtain ⟨k,rfl⟩:∃k,j=k+1:=⟨j-1,by omega⟩
     rw [List.take_succ_cons,urun]
     by_cases hk:k=0
     ·subst hk;simpa [urun] using hz
     ·exact h2 k oM (by simp at hj;omega)
    ·refine .inr ⟨n+1,by omega,by simp;omega,by rw [h3];omega,by rw [List.take_succ_cons,urun];exact h4,fun j h0 hj=>?_⟩
     obtain ⟨k,rfl⟩:∃k,j=k+1:=⟨j-1,by omega⟩
     rw [List.take_succ_cons,urun]
     by_cases hk:k=0
     ·subst hk;simpa [urun] using hz
     ·exact h5 k oM oM
theorem uscal_some(l:List UInt8)(h:(uscal l).2≠0): (uscal l).2≤l.length∧urun 0 (l.take (uscal l).2)=0∧∀j,0<j→j<(uscal l).2→urun 0 (l.take j)≠0:=by
 rcases uscalS_run l 0 0 0 with ⟨h1,_⟩|⟨n,h1,h2,h3,h4,h5⟩
 ·exact absurd h1 h
 ·have e:(uscal l).2=n:=by unfold uscal;omega
  rw [e];exact ⟨h2,h4,h5⟩
end Go.Proofs.Lw
end
