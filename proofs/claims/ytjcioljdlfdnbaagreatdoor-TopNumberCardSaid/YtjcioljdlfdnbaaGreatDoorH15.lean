/- Part 15: lemmas for TopNumber; no conditions. -/
import Derived.Test.YtjcioljdlfdnbaaGreatDoorH06
set_option linter.unusedVariables false
set_option linter.unusedSimpArgs false
set_option maxRecDepth 100000
set_option maxHeartbeats 2000000
open Go.Proofs.Tryz
namespace Go.Proofs.YtjcioljdlfdnbaaGreatDoor
section
open Go.RowKit
structure Cu (w0:World) (B p:Nat) (s:Int) (W:World):Prop where
 bel:Below w0.heap.size w0 W
 lt:B<W.heap.size
 c0:W.cell? ⟨B,0,none⟩=some (.pointer (some ⟨p,0,none⟩))
 c1:W.cell? ⟨B,1,none⟩=some (.int .i64 s)
theorem Cu.next{w0 W W':World}{B p:Nat}{s:Int}(h:Cu w0 B p s W)(hb:Below W.heap.size W W'): Cu w0 B p s W':=⟨h.bel.trans (hb.mono h.bel.size),Nat.lt_of_lt_of_le h.lt hb.size,(hb.cell (p:=⟨B,0,none⟩) h.lt).trans h.c0,(hb.cell (p:=⟨B,1,none⟩) h.lt).trans h.c1⟩
theorem Cu.held{w0 W:World}{B p:Nat}{s:Int}(h:Cu w0 B p s W): W.cell? ⟨B,0,none⟩=some (.pointer (some ⟨p,0,none⟩))∧W.cell? ⟨B,1,none⟩=some (.int .i64 s)∧Hid (Cu w0 B p s W):=⟨h.c0,h.c1,hid h⟩
def Kd (c:Int) (k:Nat):Prop:=c=91∧k=4∨c=34∧k=3∨((c=45∨48≤c∧c≤57)∧k=2)
theorem kind_r(p n L:Nat)(T V:ByteArray)(hD:Doc T V n L)(w:World)(h:Ix w p T n): Calls prog 50 #[.agg #[.pointer (some ⟨p,0,none⟩),.int .i64 (-1)]] w fun e w'=>e=.returned (.int .i64 4)∧Below w.heap.size w w':=by
 have hn:=hD.n3
 have hn1:=hD.n1
 have hL:=hD.hL
 have hs:=hD.hn
 have hv:=hD.vs
 have h0:=hD.h0 oM
 have:(0:Int)<(T.size:Int):=oM
 go_enter func50,ntmps50
 go_wp2_with fail
 refine (raw_r p n L T V hD _ (h.below tq6)).mono ?_;rintro e w1 ⟨rfl,hb1⟩
 have s1:=hb1.size;try simp at s1
 try (have:w.heap.size<w1.heap.size:=oM)
 try (have:w.heap.size<w1.heap.size+1:=oM)
 try (have:w.heap.size<w1.heap.size+1+1:=oM)
 try (have e1_0_0_0:=hb1.cell (p:=⟨w.heap.size,0,none⟩) tq5;simp [go_sem, *] at e1_0_0_0)
 try (have f1_0_0_0:=hb1.frozen (p:=⟨w.heap.size,0,none⟩) tq5;simp [go_sem, *] at f1_0_0_0)
 try (have e1_0_0_1:=hb1.cell (p:=⟨w.heap.size,1,none⟩) tq5;simp [go_sem, *] at e1_0_0_1)
 try (have f1_0_0_1:=hb1.frozen (p:=⟨w.heap.size,1,none⟩) tq5;simp [go_sem, *] at f1_0_0_1)
 have HB1:=bel_step (w:=w) tq6 hb1
 clear hb1
 go_wp2_with fail
 go_ret
 exact ⟨rfl,tq6⟩
theorem kind_s(p n L:Nat)(T V:ByteArray)(hD:Doc T V n L)(hV:0<V.size)(hc:((V[0]'hV).toNat:Int)=34)(w:World)(h:Ix w p T n): Calls prog 50 #[.agg #[.pointer (some ⟨p,0,none⟩),.int .i64 1]] w fun e w'=>e=.returned (.int .i64 3)∧Below w.heap.size w w':=by
 have hn:=hD.n3
 have hn1:=hD.n1
 have hL:=hD.hL
 have hs:=hD.hn
 have hv:=hD.vs
 have:(0:Int)<(V.size:Int):=oM
 go_enter func50,ntmps50
 go_wp2_with fail
 refine (raw_1 p n L T V hD _ (h.below tq6)).mono ?_;rintro e w1 ⟨rfl,hb1⟩
 have s1:=hb1.size;try simp at s1
 try (have:w.heap.size<w1.heap.size:=oM)
 try (have:w.heap.size<w1.heap.size+1:=oM)
 try (have:w.heap.size<w1.heap.size+1+1:=oM)
 try (have e1_0_0_0:=hb1.cell (p:=⟨w.heap.size,0,none⟩) tq5;simp [go_sem, *] at e1_0_0_0)
 try (have f1_0_0_0:=hb1.frozen (p:=⟨w.heap.size,0,none⟩) tq5;simp [go_sem, *] at f1_0_0_0)
 try (have e1_0_0_1:=hb1.cell (p:=⟨w.heap.size,1,none⟩) tq5;simp [go_sem, *] at e1_0_0_1)
 try (have f1_0_0_1:=hb1.frozen (p:=⟨w.heap.size,1,none⟩) tq5;simp [go_sem, *] at f1_0_0_1)
 have HB1:=bel_step (w:=w) tq6 hb1
 clear hb1
 go_wp2_with fail
 go_ret
 exact ⟨rfl,tq6⟩
theorem kind_n(p n L:Nat)(T V:ByteArray)(hD:Doc T V n L)(hV:0<V.size)(c:Int)(hc:((V[0]'hV).toNat:Int)=c)(hk:c=45∨48≤c∧c≤57)(w:World)(h:Ix w p T n): Calls prog 50 #[.agg #[.pointer (some ⟨p,0,none⟩),.int .i64 1]] w fun e w'=>e=.returned (.int .i64 2)∧Below w.heap.size w w':=by
 have hn:=hD.n3
 have hn1:=hD.n1
 have hL:=hD.hL
 have hs:=hD.hn
 have hv:=hD.vs
 have:(0:Int)<(V.size:Int):=oM
 have:(c==110)=false:=by rw [beq_eq_false_iff_ne];omega
 have:(c==116)=false:=by rw [beq_eq_false_iff_ne];omega
 have:(c==102)=false:=by rw [beq_eq_false_iff_ne];omega
 have:(c==34)=false:=by rw [beq_eq_false_iff_ne];omega
 have:(c==91)=false:=by rw [beq_eq_false_iff_ne];omega
 have:(c==123)=false:=by rw [beq_eq_false_iff_ne];omega
 go_enter func50,ntmps50
 go_wp2_with fail
 refine (raw_1 p n L T V hD _ (h.below tq6)).mono ?_;rintro e w1 ⟨rfl,hb1⟩
 have s1:=hb1.size;try simp at s1
 try (have:w.heap.size<w1.heap.size:=oM)
 try (have:w.heap.size<w1.heap.size+1:=oM)
 try (have:w.heap.size<w1.heap.size+1+1:=oM)
 try (have e1_0_0_0:=hb1.cell (p:=⟨w.heap.size,0,none⟩) tq5;simp [go_sem, *] at e1_0_0_0)
 try (have f1_0_0_0:=hb1.frozen (p:=⟨w.heap.size,0,none⟩) tq5;simp [go_sem, *] at f1_0_0_0)
 try (have e1_0_0_1:=hb1.cell (p:=⟨w.heap.size,1,none⟩) tq5;simp [go_sem, *] at e1_0_0_1)
 try (have f1_0_0_1:=hb1.frozen (p:=⟨w.heap.size,1,none⟩) tq5;simp [go_sem, *] at f1_0_0_1)
 have HB1:=bel_step (w:=w) tq6 hb1
 clear hb1
 go_wp2_with fail
 go_ret
 exact ⟨rfl,tq6⟩
theorem kind_1(p n L:Nat)(T V:ByteArray)(hD:Doc T V n L)(c:Int)(k:Nat)(hV:0<V.size)(hc:((V[0]'hV).toNat:Int)=c)(hk:Kd c k)(hk4:k<4)(w:World)(h:Ix w p T n): Calls prog 50 #[.agg #[.pointer (some ⟨p,0,none⟩),.int .i64 1]] w fun e w'=>e=.returned (.int .i64 (k:Nat))∧Below w.heap.size w w':=by
 rcases hk with ⟨rfl,rfl⟩|⟨rfl,rfl⟩|⟨h1,rfl⟩
 ·omega
 ·exact kind_s p n L T V hD hV hc w h
 ·exact kind_n p n L T V hD hV c hc h1 w h
theorem none_1(p n L:Nat)(T V:ByteArray)(hD:Doc T V n L)(w:World)(h:Ix w p T n): Calls prog 243 #[.agg #[.pointer (some ⟨p,0,none⟩),.int .i64 1]] w fun e w'=>e=.returned (.agg #[.int .i64 (L:Nat),.int .i64 (L:Nat)])∧Below w.heap.size w w':=by
 have hn:=hD.n3
 have hn1:=hD.n1
 have hL:=hD.hL
 have hs:=hD.hn
 have hv:=hD.vs
 go_enter func243,ntmps243
 go_wp2_with fail
 refine (zone_1 p n L T V hD _ (h.below tq6)).mono ?_;rintro e w1 ⟨rfl,hb1⟩
 have s1:=hb1.size;try simp at s1
 try (have:w.heap.size<w1.heap.size:=oM)
 try (have:w.heap.size<w1.heap.size+1:=oM)
 try (have:w.heap.size<w1.heap.size+1+1:=oM)
 try (have:w.heap.size+1<w1.heap.size:=oM)
 try (have:w.heap.size+1<w1.heap.size+1:=oM)
 try (have:w.heap.size+1<w1.heap.size+1+1:=oM)
 try (have:w.heap.size+2<w1.heap.size:=oM)
 try (have:w.heap.size+2<w1.heap.size+1:=oM)
 try (have:w.heap.size+2<w1.heap.size+1+1:=oM)
 try (have e1_0_0_0:=hb1.cell (p:=⟨w.heap.size,0,none⟩) tq5;simp [go_sem, *] at e1_0_0_0)
 try (have f1_0_0_0:=hb1.frozen (p:=⟨w.heap.size,0,none⟩) tq5;simp [go_sem, *] at f1_0_0_0)
 try (have e1_0_0_1:=hb1.cell (p:=⟨w.heap.size,1,none⟩) tq5;simp [go_sem, *] at e1_0_0_1)
 try (have f1_0_0_1:=hb1.frozen (p:=⟨w.heap.size,1,none⟩) tq5;simp [go_sem, *] at f1_0_0_1)
 try (have e1_0_1_0:=hb1.cell (p:=⟨w.heap.size+1,0,none⟩) tq5;simp [go_sem, *] at e1_0_1_0)
 try (have f1_0_1_0:=hb1.frozen (p:=⟨w.heap.size+1,0,none⟩) tq5;simp [go_sem, *] at f1_0_1_0)
 try (have e1_0_1_1:=hb1.cell (p:=⟨w.heap.size+1,1,none⟩) tq5;simp [go_sem, *] at e1_0_1_1)
 try (have f1_0_1_1:=hb1.frozen (p:=⟨w.heap.size+1,1,none⟩) tq5;simp [go_sem, *] at f1_0_1_1)
 try (have e1_0_2_0:=hb1.cell (p:=⟨w.heap.size+2,0,none⟩) tq5;simp [go_sem, *] at e1_0_2_0)
 try (have f1_0_2_0:=hb1.frozen (p:=⟨w.heap.size+2,0,none⟩) tq5;simp [go_sem, *] at f1_0_2_0)
 try (have e1_0_2_1:=hb1.cell (p:=⟨w.heap.size+2,1,none⟩) tq5;simp [go_sem, *] at e1_0_2_1)
 try (have f1_0_2_1:=hb1.frozen (p:=⟨w.heap.size+2,1,none⟩) tq5;simp [go_sem, *] at f1_0_2_1)
 have HB1:=bel_step (w:=w) tq6 hb1
 clear hb1
 go_wp2_with fail
 try simp only [Exit.inBlock,Exit.then]
 refine bodyPost_ret (v:=.agg #[.int .i64 (L:Nat),.int .i64 (L:Nat)]) (by simp [results,results243,go_sem, *]) rfl ⟨rfl,tq6⟩
theorem inner_r(p n L:Nat)(T V:ByteArray)(hD:Doc T V n L)(w:World)(h:Ix w p T n): Calls prog 180 #[.agg #[.pointer (some ⟨p,0,none⟩),.int .i64 (-1)]] w fun e w'=>e=.returned (.tuple #[.int .i64 0,.bool true])∧Below w.heap.size w w':=by
 have hn:=hD.n3
 have hn1:=hD.n1
 have hL:=hD.hL
 have hs:=hD.hn
 have hv:=hD.vs
 have:((1:Int)==(L:Int))=false:=by rw [beq_eq_false_iff_ne];omega
 have:¬(1:Int)=(L:Int):=oM
 go_enter func180,ntmps180
 go_wp2_with fail
 refine (kind_r p n L T V hD _ (h.below tq6)).mono ?_;rintro e w1 ⟨rfl,hb1⟩
 have s1:=hb1.size;try simp at s1
 try (have l1_0_0_0:w.heap.size<w1.heap.size:=oM)
 try (have:w.heap.size<w1.heap.size+1:=oM)
 try (have:w.heap.size<w1.heap.size+1+1:=oM)
 try (have e1_0_0_0:=hb1.cell (p:=⟨w.heap.size,0,none⟩) tq5;simp [go_sem, *] at e1_0_0_0)
 try (have f1_0_0_0:=hb1.frozen (p:=⟨w.heap.size,0,none⟩) tq5;simp [go_sem, *] at f1_0_0_0)
 try (have e1_0_0_1:=hb1.cell (p:=⟨w.heap.size,1,none⟩) tq5;simp [go_sem, *] at e1_0_0_1)
 try (have f1_0_0_1:=hb1.frozen (p:=⟨w.heap.size,1,none⟩) tq5;simp [go_sem, *] at f1_0_0_1)
 have HB1:=bel_step (w:=w) tq6 hb1
 clear hb1
 go_wp2_with fail
 have HC:Hid (Cu w w.heap.size p (-1) w1):=hid ⟨HB1.out,l1_0_0_0,e1_0_0_0,e1_0_0_1⟩
 have HCd:=hid (HC.out.next (qR.drew))
 have hs1:∀(W:World) (hW:Cu w w.heap.size p (-1) W),Calls prog 48 #[.agg #[.pointer (some ⟨p,0,none⟩),.int .i64 1]] W fun e w'=>e=.returned (.agg #[.int .i64 1,.int .i64 (L:Nat)])∧Cu w w.heap.size p (-1) w':=fun W hW=>(span_1 p n L T V hD W (h.below hW.bel)).mono fun e w' ⟨a,b⟩ =>⟨a,hW.next b⟩
 have hs2:∀(W:World) (hW:Cu w w.heap.size p (-1) W),Calls prog 243 #[.agg #[.pointer (some ⟨p,0,none⟩),.int .i64 1]] W fun e w'=>e=.returned (.agg #[.int .i64 (L:Nat),.int .i64 (L:Nat)])∧Cu w w.heap.size p (-1) w':=fun W hW=>(none_1 p n L T V hD W (h.below hW.bel)).mono fun e w' ⟨a,b⟩ =>⟨a,hW.next b⟩
 go_region_held3 (fun w'=>w'.cell? ⟨w.heap.size,0,none⟩=some (.pointer (some ⟨p,0,none⟩))∧w'.cell? ⟨w.heap.size,1,none⟩=some (.int .i64 (-1))∧Hid (Cu w w.heap.size p (-1) w')) (first|assumption|exact Cu.held HC.out|exact Cu.held HCd.out|exact Cu.held (Hid.out aM)) (first|(go_at_call 48;refine (hs1 _ (Hid.out (by first|exact HC|exact HCd|assumption))).mono ?_;rintro e w5 ⟨rfl,hb⟩;have HX:=hid hb;clear hb)|(go_at_call 243;refine (hs2 _ (Hid.out (by first|exact HC|exact HCd|assumption))).mono ?_;rintro e w5 ⟨rfl,hb⟩;have HX:=hid hb;clear hb))
 go_wp2_with fail
 go_ret2
 exact ⟨rfl,HX.out.bel⟩
theorem inner_1(p n L:Nat)(T V:ByteArray)(hD:Doc T V n L)(c:Int)(k:Nat)(hV:0<V.size)(hc:((V[0]'hV).toNat:Int)=c)(hk:Kd c k)(hk4:k<4)(w:World)(h:Ix w p T n): Calls prog 180 #[.agg #[.pointer (some ⟨p,0,none⟩),.int .i64 1]] w fun e w'=>e=.returned (.tuple #[.int .i64 0,.bool false])∧Below w.heap.size w w':=by
 have hn:=hD.n3
 have hn1:=hD.n1
 have hL:=hD.hL
 have hs:=hD.hn
 have hv:=hD.vs
 have:¬(k:Int)=4:=oM
 have:¬(k:Int)=5:=oM
 have:((k:Int) != 4)=true:=by rw [bne_iff_ne];omega
 have:((k:Int) != 5)=true:=by rw [bne_iff_ne];omega
 go_enter func180,ntmps180
 go_wp2_with fail
 refine (kind_1 p n L T V hD c k hV hc hk hk4 _ (h.below tq6)).mono ?_;rintro e w1 ⟨rfl,hb1⟩
 have s1:=hb1.size;try simp at s1
 try (have:w.heap.size<w1.heap.size:=oM)
 try (have:w.heap.size<w1.heap.size+1:=oM)
 try (have:w.heap.size<w1.heap.size+1+1:=oM)
 try (have e1_0_0_0:=hb1.cell (p:=⟨w.heap.size,0,none⟩) tq5;simp [go_sem, *] at e1_0_0_0)
 try (have f1_0_0_0:=hb1.frozen (p:=⟨w.heap.size,0,none⟩) tq5;simp [go_sem, *] at f1_0_0_0)
 try (have e1_0_0_1:=hb1.cell (p:=⟨w.heap.size,1,none⟩) tq5;simp [go_sem, *] at e1_0_0_1)
 try (have f1_0_0_1:=hb1.frozen (p:=⟨w.heap.size,1,none⟩) tq5;simp [go_sem, *] at f1_0_0_1)
 have HB1:=bel_step (w:=w) tq6 hb1
 clear hb1
 go_wp2_with fail
 go_ret2
 exact ⟨rfl,tq6⟩
theorem up_r(p n L:Nat)(T V:ByteArray)(hD:Doc T V n L)(w:World)(h:Ix w p T n): Calls prog 174 #[.agg #[.pointer (some ⟨p,0,none⟩),.int .i64 (-1)]] w fun e w'=>e=.returned (.tuple #[.int .i64 0,.bool false])∧Below w.heap.size w w':=by
 have hn:=hD.n3
 have hn1:=hD.n1
 have hL:=hD.hL
 have hs:=hD.hn
 have hv:=hD.vs
 go_enter func174,ntmps174
 go_wp2_with fail
 go_ret2
 exact ⟨rfl,tq6⟩
theorem up_1(p n L:Nat)(T V:ByteArray)(hD:Doc T V n L)(w:World)(h:Ix w p T n): Calls prog 174 #[.agg #[.pointer (some ⟨p,0,none⟩),.int .i64 1]] w fun e w'=>e=.returned (.tuple #[.int .i64 0,.bool true])∧Below w.heap.size w w':=by
 have hn:=hD.n3
 have hn1:=hD.n1
 have hL:=hD.hL
 have hs:=hD.hn
 have hv:=hD.vs
 obtain ⟨sq,b,ns,a1,x0,x1,x2,x3,g1,g2,g3⟩ :=id h
 have hNe:=xnest_q p ns w a1 x2
 have hPa:∀(W:World) (hW:Below w.heap.size w W),_:=fun W hW=>nParent_any ns b W (g2.below hW)
 go_enter func174,ntmps174
 go_wp2_with fail
 go_quiet ((first|(go_at_call 165;exact quiet_ex (hNe _ tq6))|(go_at_call 236;exact quiet_ex (hPa _ tq6))))
 go_wp2_with fail
 go_ret2
 exact ⟨rfl,tq6⟩
theorem member_0(p n L:Nat)(T V:ByteArray)(hD:Doc T V n L)(s:Int)(w:World)(h:Ix w p T n): Calls prog 184 #[.agg #[.pointer (some ⟨p,0,none⟩),.int .i64 s],.int .i64 0] w fun e w'=>e=.returned (.bool false)∧Below w.heap.size w w':=by
 have hn:=hD.n3
 have hn1:=hD.n1
 have hL:=hD.hL
 have hs:=hD.hn
 have hv:=hD.vs
 have hTx:=xtext_q p n L T V hD w h
 have h0:=hD.h0 oM
 have:(0:Int)<(T.size:Int):=oM
 go_enter func184,ntmps184
 go_wp2_with fail
 refine (xmark_0 p n T hn hn1 _ (h.below tq6)).mono ?_;rintro e w1 ⟨rfl,hb1⟩
 have s1:=hb1.size;try simp at s1
 try (have:w.heap.size<w1.heap.size:=oM)
 try (have:w.heap.size<w1.heap.size+1:=oM)
 try (have:w.heap.size<w1.heap.size+1+1:=oM)
 try (have e1_0_0_0:=hb1.cell (p:=⟨w.heap.size,0,none⟩) tq5;simp [go_sem, *] at e1_0_0_0)
 try (have f1_0_0_0:=hb1.frozen (p:=⟨w.heap.size,0,none⟩) tq5;simp [go_sem, *] at f1_0_0_0)
 try (have e1_0_0_1:=hb1.cell (p:=⟨w.heap.size,1,none⟩) tq5;simp [go_sem, *] at e1_0_0_1)
 try (have f1_0_0_1:=hb1.frozen (p:=⟨w.heap.size,1,none⟩) tq5;simp [go_sem, *] at f1_0_0_1)
 have HB1:=bel_step (w:=w) tq6 hb1
 clear hb1
 go_wp2_with (first|(go_at_call 89;refine (xtext_any p n T _ (h.below tq6)).mono ?_;rintro e w9 ⟨rfl,rfl⟩))
 go_wp2_with fail
 go_ret
 exact ⟨rfl,tq6⟩
theorem key_1(p n L:Nat)(T V:ByteArray)(hD:Doc T V n L)(w:World)(h:Ix w p T n): Calls prog 175 #[.agg #[.pointer (some ⟨p,0,none⟩),.int .i64 1]] w fun e w'=>e=.returned (.tuple #[.string ⟨#[]⟩,.bool false])∧Below w.heap.size w w':=by
 have hn:=hD.n3
 have hn1:=hD.n1
 have hL:=hD.hL
 have hs:=hD.hn
 have hv:=hD.vs
 go_enter func175,ntmps175
 go_wp2_with fail
 refine (up_1 p n L T V hD _ (h.below tq6)).mono ?_;rintro e w1 ⟨rfl,hb1⟩
 have s1:=hb1.size;try simp at s1
 try (have:w.heap.size<w1.heap.size:=oM)
 try (have:w.heap.size<w1.heap.size+1:=oM)
 try (have:w.heap.size<w1.heap.size+1+1:=oM)
 try (have e1_0_0_0:=hb1.cell (p:=⟨w.heap.size,0,none⟩) tq5;simp [go_sem, *] at e1_0_0_0)
 try (have f1_0_0_0:=hb1.frozen (p:=⟨w.heap.size,0,none⟩) tq5;simp [go_sem, *] at f1_0_0_0)
 try (have e1_0_0_1:=hb1.cell (p:=⟨w.heap.size,1,none⟩) tq5;simp [go_sem, *] at e1_0_0_1)
 try (have f1_0_0_1:=hb1.frozen (p:=⟨w.heap.size,1,none⟩) tq5;simp [go_sem, *] at f1_0_0_1)
 have HB1:=bel_step (w:=w) tq6 hb1
 clear hb1
 go_wp2_with fail
 refine (member_0 p n L T V hD 1 _ (h.below tq6)).mono ?_;rintro e w2 ⟨rfl,hb2⟩
 have s2:=hb2.size;try simp at s2
 try (have:w.heap.size<w2.heap.size:=oM)
 try (have:w.heap.size<w2.heap.size+1:=oM)
 try (have:w.heap.size<w2.heap.size+1+1:=oM)
 try (have e2_0_0_0:=hb2.cell (p:=⟨w.heap.size,0,none⟩) tq5;simp [go_sem, *] at e2_0_0_0)
 try (have f2_0_0_0:=hb2.frozen (p:=⟨w.heap.size,0,none⟩) tq5;simp [go_sem, *] at f2_0_0_0)
 try (have e2_0_0_1:=hb2.cell (p:=⟨w.heap.size,1,none⟩) tq5;simp [go_sem, *] at e2_0_0_1)
 try (have f2_0_0_1:=hb2.frozen (p:=⟨w.heap.size,1,none⟩) tq5;simp [go_sem, *] at f2_0_0_1)
 have HB2:=bel_step (w:=w) tq6 hb2
 clear hb2
 go_wp2_with fail
 go_ret2
 exact ⟨rfl,tq6⟩
theorem first_r(p n L:Nat)(T V:ByteArray)(hD:Doc T V n L)(w:World)(h:Ix w p T n): Calls prog 97 #[.agg #[.pointer (some ⟨p,0,none⟩),.int .i64 (-1)]] w fun e w'=>e=.returned (.tuple #[.agg #[.pointer (some ⟨p,0,none⟩),.int .i64 1],.bool true])∧Below w.heap.size w w':=by
 have hn:=hD.n3
 have hn1:=hD.n1
 have hL:=hD.hL
 have hs:=hD.hn
 have hv:=hD.vs
 go_enter func97,ntmps97
 go_wp2_with fail
 refine (inner_r p n L T V hD _ (h.below tq6)).mono ?_;rintro e w1 ⟨rfl,hb1⟩
 have s1:=hb1.size;try simp at s1
 try (have:w.heap.size<w1.heap.size:=oM)
 try (have:w.heap.size<w1.heap.size+1:=oM)
 try (have:w.heap.size<w1.heap.size+1+1:=oM)
 try (have:w.heap.size+1<w1.heap.size:=oM)
 try (have:w.heap.size+1<w1.heap.size+1:=oM)
 try (have:w.heap.size+1<w1.heap.size+1+1:=oM)
 try (have e1_0_0_0:=hb1.cell (p:=⟨w.heap.size,0,none⟩) tq5;simp [go_sem, *] at e1_0_0_0)
 try (have f1_0_0_0:=hb1.frozen (p:=⟨w.heap.size,0,none⟩) tq5;simp [go_sem, *] at f1_0_0_0)
 try (have e1_0_0_1:=hb1.cell (p:=⟨w.heap.size,1,none⟩) tq5;simp [go_sem, *] at e1_0_0_1)
 try (have f1_0_0_1:=hb1.frozen (p:=⟨w.heap.size,1,none⟩) tq5;simp [go_sem, *] at f1_0_0_1)
 try (have e1_0_1_0:=hb1.cell (p:=⟨w.heap.size+1,0,none⟩) tq5;simp [go_sem, *] at e1_0_1_0)
 try (have f1_0_1_0:=hb1.frozen (p:=⟨w.heap.size+1,0,none⟩) tq5;simp [go_sem, *] at f1_0_1_0)
 try (have e1_0_1_1:=hb1.cell (p:=⟨w.heap.size+1,1,none⟩) tq5;simp [go_sem, *] at e1_0_1_1)
 try (have f1_0_1_1:=hb1.frozen (p:=⟨w.heap.size+1,1,none⟩) tq5;simp [go_sem, *] at f1_0_1_1)
 have HB1:=bel_step (w:=w) tq6 hb1
 clear hb1
 go_wp2_with fail
 refine (kind_r p n L T V hD _ (h.below tq6)).mono ?_;rintro e w2 ⟨rfl,hb2⟩
 have s2:=hb2.size;try simp at s2
 try (have:w.heap.size<w2.heap.size:=oM)
 try (have:w.heap.size<w2.heap.size+1:=oM)
 try (have:w.heap.size<w2.heap.size+1+1:=oM)
 try (have:w.heap.size+1<w2.heap.size:=oM)
 try (have:w.heap.size+1<w2.heap.size+1:=oM)
 try (have:w.heap.size+1<w2.heap.size+1+1:=oM)
 try (have:w1.heap.size<w2.heap.size:=oM)
 try (have:w1.heap.size<w2.heap.size+1:=oM)
 try (have:w1.heap.size<w2.heap.size+1+1:=oM)
 try (have:w1.heap.size+1<w2.heap.size:=oM)
 try (have:w1.heap.size+1<w2.heap.size+1:=oM)
 try (have:w1.heap.size+1<w2.heap.size+1+1:=oM)
 try (have e2_0_0_0:=hb2.cell (p:=⟨w.heap.size,0,none⟩) tq5;simp [go_sem, *] at e2_0_0_0)
 try (have f2_0_0_0:=hb2.frozen (p:=⟨w.heap.size,0,none⟩) tq5;simp [go_sem, *] at f2_0_0_0)
 try (have e2_0_0_1:=hb2.cell (p:=⟨w.heap.size,1,none⟩) tq5;simp [go_sem, *] at e2_0_0_1)
 try (have f2_0_0_1:=hb2.frozen (p:=⟨w.heap.size,1,none⟩) tq5;simp [go_sem, *] at f2_0_0_1)
 try (have e2_0_1_0:=hb2.cell (p:=⟨w.heap.size+1,0,none⟩) tq5;simp [go_sem, *] at e2_0_1_0)
 try (have f2_0_1_0:=hb2.frozen (p:=⟨w.heap.size+1,0,none⟩) tq5;simp [go_sem, *] at f2_0_1_0)
 try (have e2_0_1_1:=hb2.cell (p:=⟨w.heap.size+1,1,none⟩) tq5;simp [go_sem, *] at e2_0_1_1)
 try (have f2_0_1_1:=hb2.frozen (p:=⟨w.heap.size+1,1,none⟩) tq5;simp [go_sem, *] at f2_0_1_1)
 try (have e2_1_0_0:=hb2.cell (p:=⟨w1.heap.size,0,none⟩) tq5;simp [go_sem, *] at e2_1_0_0)
 try (have f2_1_0_0:=hb2.frozen (p:=⟨w1.heap.size,0,none⟩) tq5;simp [go_sem, *] at f2_1_0_0)
 try (have e2_1_0_1:=hb2.cell (p:=⟨w1.heap.size,1,none⟩) tq5;simp [go_sem, *] at e2_1_0_1)
 try (have f2_1_0_1:=hb2.frozen (p:=⟨w1.heap.size,1,none⟩) tq5;simp [go_sem, *] at f2_1_0_1)
 try (have e2_1_1_0:=hb2.cell (p:=⟨w1.heap.size+1,0,none⟩) tq5;simp [go_sem, *] at e2_1_1_0)
 try (have f2_1_1_0:=hb2.frozen (p:=⟨w1.heap.size+1,0,none⟩) tq5;simp [go_sem, *] at f2_1_1_0)
 try (have e2_1_1_1:=hb2.cell (p:=⟨w1.heap.size+1,1,none⟩) tq5;simp [go_sem, *] at e2_1_1_1)
 try (have f2_1_1_1:=hb2.frozen (p:=⟨w1.heap.size+1,1,none⟩) tq5;simp [go_sem, *] at f2_1_1_1)
 have HB2:=bel_step (w:=w) tq6 hb2
 clear hb2
 go_wp2_with fail
 try simp only [Exit.inBlock,Exit.then]
 refine bodyPost_ret (v:=.tuple #[.agg #[.pointer (some ⟨p,0,none⟩),.int .i64 1],.bool true]) (by simp [results,results97,go_sem, *]) rfl ⟨rfl,tq6⟩
theorem first_1(p n L:Nat)(T V:ByteArray)(hD:Doc T V n L)(c:Int)(k:Nat)(hV:0<V.size)(hc:((V[0]'hV).toNat:Int)=c)(hk:Kd c k)(hk4:k<4)(w:World)(h:Ix w p T n): Calls prog 97 #[.agg #[.pointer (some ⟨p,0,none⟩),.int .i64 1]] w fun e w'=>e=.returned (.tuple #[.agg #[.pointer none,.int .i64 0],.bool false])∧Below w.heap.size w w':=by
 have hn:=hD.n3
 have hn1:=hD.n1
 have hL:=hD.hL
 have hs:=hD.hn
 have hv:=hD.vs
 go_enter func97,ntmps97
 go_wp2_with fail
 refine (inner_1 p n L T V hD c k hV hc hk hk4 _ (h.below tq6)).mono ?_;rintro e w1 ⟨rfl,hb1⟩
 have s1:=hb1.size;try simp at s1
 try (have:w.heap.size<w1.heap.size:=oM)
 try (have:w.heap.size<w1.heap.size+1:=oM)
 try (have:w.heap.size<w1.heap.size+1+1:=oM)
 try (have:w.heap.size+1<w1.heap.size:=oM)
 try (have:w.heap.size+1<w1.heap.size+1:=oM)
 try (have:w.heap.size+1<w1.heap.size+1+1:=oM)
 try (have e1_0_0_0:=hb1.cell (p:=⟨w.heap.size,0,none⟩) tq5;simp [go_sem, *] at e1_0_0_0)
 try (have f1_0_0_0:=hb1.frozen (p:=⟨w.heap.size,0,none⟩) tq5;simp [go_sem, *] at f1_0_0_0)
 try (have e1_0_0_1:=hb1.cell (p:=⟨w.heap.size,1,none⟩) tq5;simp [go_sem, *] at e1_0_0_1)
 try (have f1_0_0_1:=hb1.frozen (p:=⟨w.heap.size,1,none⟩) tq5;simp [go_sem, *] at f1_0_0_1)
 try (have e1_0_1_0:=hb1.cell (p:=⟨w.heap.size+1,0,none⟩) tq5;simp [go_sem, *] at e1_0_1_0)
 try (have f1_0_1_0:=hb1.frozen (p:=⟨w.heap.size+1,0,none⟩) tq5;simp [go_sem, *] at f1_0_1_0)
 try (have e1_0_1_1:=hb1.cell (p:=⟨w.heap.size+1,1,none⟩) tq5;simp [go_sem, *] at e1_0_1_1)
 try (have f1_0_1_1:=hb1.frozen (p:=⟨w.heap.size+1,1,none⟩) tq5;simp [go_sem, *] at f1_0_1_1)
 have HB1:=bel_step (w:=w) tq6 hb1
 clear hb1
 go_wp2_with fail
 try simp only [Exit.inBlock,Exit.then]
 refine bodyPost_ret (v:=.tuple #[.agg #[.pointer none,.int .i64 0],.bool false]) (by simp [results,results97,go_sem, *]) rfl ⟨rfl,tq6⟩
theorem parent_r(p n L:Nat)(T V:ByteArray)(hD:Doc T V n L)(w:World)(h:Ix w p T n): Calls prog 92 #[.agg #[.pointer (some ⟨p,0,none⟩),.int .i64 (-1)]] w fun e w'=>e=.returned (.tuple #[.agg #[.pointer none,.int .i64 0],.bool false])∧Below w.heap.size w w':=by
 have hn:=hD.n3
 have hn1:=hD.n1
 have hL:=hD.hL
 have hs:=hD.hn
 have hv:=hD.vs
 go_enter func92,ntmps92
 go_wp2_with fail
 refine (up_r p n L T V hD _ (h.below tq6)).mono ?_;rintro e w1 ⟨rfl,hb1⟩
 have s1:=hb1.size;try simp at s1
 try (have:w.heap.size<w1.heap.size:=oM)
 try (have:w.heap.size<w1.heap.size+1:=oM)
 try (have:w.heap.size<w1.heap.size+1+1:=oM)
 try (have:w.heap.size+1<w1.heap.size:=oM)
 try (have:w.heap.size+1<w1.heap.size+1:=oM)
 try (have:w.heap.size+1<w1.heap.size+1+1:=oM)
 try (have e1_0_0_0:=hb1.cell (p:=⟨w.heap.size,0,none⟩) tq5;simp [go_sem, *] at e1_0_0_0)
 try (have f1_0_0_0:=hb1.frozen (p:=⟨w.heap.size,0,none⟩) tq5;simp [go_sem, *] at f1_0_0_0)
 try (have e1_0_0_1:=hb1.cell (p:=⟨w.heap.size,1,none⟩) tq5;simp [go_sem, *] at e1_0_0_1)
 try (have f1_0_0_1:=hb1.frozen (p:=⟨w.heap.size,1,none⟩) tq5;simp [go_sem, *] at f1_0_0_1)
 try (have e1_0_1_0:=hb1.cell (p:=⟨w.heap.size+1,0,none⟩) tq5;simp [go_sem, *] at e1_0_1_0)
 try (have f1_0_1_0:=hb1.frozen (p:=⟨w.heap.size+1,0,none⟩) tq5;simp [go_sem, *] at f1_0_1_0)
 try (have e1_0_1_1:=hb1.cell (p:=⟨w.heap.size+1,1,none⟩) tq5;simp [go_sem, *] at e1_0_1_1)
 try (have f1_0_1_1:=hb1.frozen (p:=⟨w.heap.size+1,1,none⟩) tq5;simp [go_sem, *] at f1_0_1_1)
 have HB1:=bel_step (w:=w) tq6 hb1
 clear hb1
 go_wp2_with fail
 try simp only [Exit.inBlock,Exit.then]
 refine bodyPost_ret (v:=.tuple #[.agg #[.pointer none,.int .i64 0],.bool false]) (by simp [results,results92,go_sem, *]) rfl ⟨rfl,tq6⟩
theorem parent_1(p n L:Nat)(T V:ByteArray)(hD:Doc T V n L)(w:World)(h:Ix w p T n): Calls prog 92 #[.agg #[.pointer (some ⟨p,0,none⟩),.int .i64 1]] w fun e w'=>e=.returned (.tuple #[.agg #[.pointer (some ⟨p,0,none⟩),.int .i64 (-1)],.bool true])∧Below w.heap.size w w':=by
 have hn:=hD.n3
 have hn1:=hD.n1
 have hL:=hD.hL
 have hs:=hD.hn
 have hv:=hD.vs
 go_enter func92,ntmps92
 go_wp2_with fail
 refine (up_1 p n L T V hD _ (h.below tq6)).mono ?_;rintro e w1 ⟨rfl,hb1⟩
 have s1:=hb1.size;try simp at s1
 try (have:w.heap.size<w1.heap.size:=oM)
 try (have:w.heap.size<w1.heap.size+1:=oM)
 try (have:w.heap.size<w1.heap.size+1+1:=oM)
 try (have:w.heap.size+1<w1.heap.size:=oM)
 try (have:w.heap.size+1<w1.heap.size+1:=oM)
 try (have:w.heap.size+1<w1.heap.size+1+1:=oM)
 try (have e1_0_0_0:=hb1.cell (p:=⟨w.heap.size,0,none⟩) tq5;simp [go_sem, *] at e1_0_0_0)
 try (have f1_0_0_0:=hb1.frozen (p:=⟨w.heap.size,0,none⟩) tq5;simp [go_sem, *] at f1_0_0_0)
 try (have e1_0_0_1:=hb1.cell (p:=⟨w.heap.size,1,none⟩) tq5;simp [go_sem, *] at e1_0_0_1)
 try (have f1_0_0_1:=hb1.frozen (p:=⟨w.heap.size,1,none⟩) tq5;simp [go_sem, *] at f1_0_0_1)
 try (have e1_0_1_0:=hb1.cell (p:=⟨w.heap.size+1,0,none⟩) tq5;simp [go_sem, *] at e1_0_1_0)
 try (have f1_0_1_0:=hb1.frozen (p:=⟨w.heap.size+1,0,none⟩) tq5;simp [go_sem, *] at f1_0_1_0)
 try (have e1_0_1_1:=hb1.cell (p:=⟨w.heap.size+1,1,none⟩) tq5;simp [go_sem, *] at e1_0_1_1)
 try (have f1_0_1_1:=hb1.frozen (p:=⟨w.heap.size+1,1,none⟩) tq5;simp [go_sem, *] at f1_0_1_1)
 have HB1:=bel_step (w:=w) tq6 hb1
 clear hb1
 go_wp2_with fail
 try simp only [Exit.inBlock,Exit.then]
 refine bodyPost_ret (v:=.tuple #[.agg #[.pointer (some ⟨p,0,none⟩),.int .i64 (-1)],.bool true]) (by simp [results,results92,go_sem, *]) rfl ⟨rfl,tq6⟩
theorem place_1(p n L:Nat)(T V:ByteArray)(hD:Doc T V n L)(w:World)(h:Ix w p T n): Calls prog 176 #[.agg #[.pointer (some ⟨p,0,none⟩),.int .i64 1]] w fun e w'=>e=.returned (.int .i64 0)∧Below w.heap.size w w':=by
 have hn:=hD.n3
 have hn1:=hD.n1
 have hL:=hD.hL
 have hs:=hD.hn
 have hv:=hD.vs
 go_enter func176,ntmps176
 go_wp2_with fail
 refine (up_1 p n L T V hD _ (h.below tq6)).mono ?_;rintro e w1 ⟨rfl,hb1⟩
 have s1:=hb1.size;try simp at s1
 try (have:w.heap.size<w1.heap.size:=oM)
 try (have:w.heap.size<w1.heap.size+1:=oM)
 try (have:w.heap.size<w1.heap.size+1+1:=oM)
 try (have e1_0_0_0:=hb1.cell (p:=⟨w.heap.size,0,none⟩) tq5;simp [go_sem, *] at e1_0_0_0)
 try (have f1_0_0_0:=hb1.frozen (p:=⟨w.heap.size,0,none⟩) tq5;simp [go_sem, *] at f1_0_0_0)
 try (have e1_0_0_1:=hb1.cell (p:=⟨w.heap.size,1,none⟩) tq5;simp [go_sem, *] at e1_0_0_1)
 try (have f1_0_0_1:=hb1.frozen (p:=⟨w.heap.size,1,none⟩) tq5;simp [go_sem, *] at f1_0_0_1)
 have HB1:=bel_step (w:=w) tq6 hb1
 clear hb1
 go_wp2_with (first|(refine wp_loop_unr 2 ?_;refine Unr.step ?_;intro U hU)|(refine Unr.step ?_;intro U hU))
 refine (member_0 p n L T V hD 1 _ (h.below tq6)).mono ?_;rintro e w2 ⟨rfl,hb2⟩
 have s2:=hb2.size;try simp at s2
 try (have:w.heap.size<w2.heap.size:=oM)
 try (have:w.heap.size<w2.heap.size+1:=oM)
 try (have:w.heap.size<w2.heap.size+1+1:=oM)
 try (have e2_0_0_0:=hb2.cell (p:=⟨w.heap.size,0,none⟩) tq5;simp [go_sem, *] at e2_0_0_0)
 try (have f2_0_0_0:=hb2.frozen (p:=⟨w.heap.size,0,none⟩) tq5;simp [go_sem, *] at f2_0_0_0)
 try (have e2_0_0_1:=hb2.cell (p:=⟨w.heap.size,1,none⟩) tq5;simp [go_sem, *] at e2_0_0_1)
 try (have f2_0_0_1:=hb2.frozen (p:=⟨w.heap.size,1,none⟩) tq5;simp [go_sem, *] at f2_0_0_1)
 have HB2:=bel_step (w:=w) tq6 hb2
 clear hb2
 go_wp2_with fail
 go_ret
 exact ⟨rfl,tq6⟩
end
section
set_option maxRecDepth 100000
open Go.RowKit Go.Shelf
attribute [local go_sem] Oper.semAt_some
theorem nchildren_any(n ns:Nat)(w:World):
  CallsIn Fence.wide n prog 373 #[.pointer (some ⟨ns,0,none⟩),.int .i64 0] w fun e w'=>e=.returned (.func (.func 385) #[] #[.pointer (some ⟨w.heap.size+1,0,none⟩),.pointer (some ⟨w.heap.size,0,none⟩)])∧w'=(w.alloc (.cells #[.pointer (some ⟨ns,0,none⟩)] 109)).alloc (.cells #[.int .i64 0] 3):=by
 refine callsIn_of_wp func373 rfl trivial ?_ rfl
 simp only [ntmps373,List.size_toArray,List.length_cons,List.length_nil,Nat.reduceAdd,Nat.reduceSub,Array.replicate_succ,Array.replicate_zero,List.push_toArray,List.append_toArray,List.nil_append,List.cons_append]
 gi_wp2
 go_ret
 exact ⟨rfl,rfl⟩
def KpN (w0:World) (Bi Bt:Nat) (W W':World):Prop:=Tx.KpB Bi W W'∧Tx.KpB Bt W W'∧(Below w0.heap.size w0 W→Below w0.heap.size w0 W')
theorem KpN.t{w0:World}{Bi Bt:Nat}{A B C:World}(h:KpN w0 Bi Bt A B)(k:KpN w0 Bi Bt B C): KpN w0 Bi Bt A C:=⟨Tx.KpB_t h.1 k.1,Tx.KpB_t h.2.1 k.2.1,fun x=>k.2.2 (h.2.2 x)⟩
theorem KpN.b{w0 w:World}{Bi Bt:Nat}(hw:w0.heap.size≤w.heap.size)(W:World)(l:Nat)(o o':Obj)(hl:w.heap.size≤l)(h:W.heap[l]?=some o)(ho:o.isCells=false)(hk:o.isWalk=false): KpN w0 Bi Bt W (W.putObj l o'):=
 ⟨Tx.KpB_b (w:=w) W l o o' hl h ho hk,Tx.KpB_b (w:=w) W l o o' hl h ho hk,fun x=>x.trans (belowK_b (w:=w) hw W l o o' hl h ho hk)⟩
theorem grown_drewN(W:World)(m:Nat): W.grownBy (W.drewN m) none:=(fun h:Below W.heap.size W (W.drewN m)=>(⟨h.os,h.tape,h.output,h.size,fun k hk _=>h.block k hk⟩:W.grownBy (W.drewN m) none)) (below_drewN (Below.refl W.heap.size W) m)
theorem nch1_in(n:Nat)(hn:1≤n)(l Bi Bt ns b B0:Nat)(w0:World)(hN:Ns w0 ns b)(J Jx:List (Int × Int)→World→Prop)(hJ:AbidesFrom B0 J)(hY:∀pre x W,J pre W→pre.length<1→YieldAt Fence.wide (n-1) prog l #[.int .i64 x.1,.int .i64 x.2] W fun e W'=>
   (e=.returned (.bool true)∧J (pre++[x]) W'∧KpN w0 Bi Bt W W')∨(e=.returned (.bool false)∧Jx (pre++[x]) W'))(W:World)(hBi:W.cell? ⟨Bi,0,none⟩=some (.int .i64 0))(hBt:W.cell? ⟨Bt,0,none⟩=some (.pointer (some ⟨ns,0,none⟩)))(hB:Below w0.heap.size w0 W)(h0:J [] W):
  CallsIn Fence.wide n prog 385 #[.func (.yield l) #[] #[],.pointer (some ⟨Bi,0,none⟩),.pointer (some ⟨Bt,0,none⟩)] W fun e W'=>(∃v,e=.returned v)∧
   ((∃ys,ys=[((0:Int),(1:Int))]∧J ys W')∨(∃pre,pre <+: [((0:Int),(1:Int))]∧Jx pre W')):=by
 refine callsIn_of_wp func385 rfl trivial ?_ rfl
 simp only [ntmps385,List.size_toArray,List.length_cons,List.length_nil,Nat.reduceAdd,Nat.reduceSub,Array.replicate_succ,Array.replicate_zero,List.push_toArray,List.append_toArray,List.nil_append,List.cons_append]
 gi_wp2
 refine wpIn_loop_rounds 2 ?_
 rw [roundsIn_succ]
 gi_wp2_with (first|(refine ⟨trivial,?_⟩;gi_at_call 230;refine (callsIn_wide.2 (node_1 ns b _ (hN.below hB))).mono ?_;rintro e w9 ⟨rfl,m1,rfl⟩;obtain ⟨fn,tmps,assign,body,hy,hR⟩ :=hY [] (0,1) (W.drewN m1) (hJ _ _ _ _ h0 (grown_drewN W m1) (fun r e=>by cases e)) sM;dsimp only at hy))
 refine hR.mono ?_
 rintro e W3 (⟨rfl,hJ3,hk3⟩|⟨rfl,hJx3⟩)
 ·have hBi3:=hk3.1 _ (by rw [World.cell?_drewN];exact hBi)
  have hBt3:=hk3.2.1 _ (by rw [World.cell?_drewN];exact hBt)
  have hB3:=hk3.2.2 (below_drewN' hB m1)
  gi_wp2_with (first|(refine ⟨trivial,?_⟩;gi_at_call 231;refine (callsIn_wide.2 (nclose_any ns b _ (hN.below hB3))).mono ?_;rintro e w9 ⟨rfl,m2,rfl⟩))
  rw [roundsIn_succ]
  gi_wp2_with (first|(refine ⟨trivial,?_⟩;gi_at_call 230;refine (callsIn_wide.2 (node_3 ns b _ (hN.below (below_drewN' hB3 m2)))).mono ?_;rintro e w9 ⟨rfl,m3,rfl⟩))
  refine ⟨fun f hf=>(by cases hf),?_⟩
  gi_wp2
  go_end0
  exact ⟨⟨_,rfl⟩,.inl ⟨_,rfl,hJ _ _ _ _ hJ3 (grown_drewN W3 (m2+m3)) (fun r e=>by cases e)⟩⟩
 ·gi_wp2
  go_end0
  exact ⟨⟨_,rfl⟩,.inr ⟨_,List.prefix_refl _,hJx3⟩⟩
theorem nch_stops(n:Nat)(hn:1≤n)(Bi Bt ns b:Nat)(w0 w:World)(hN:Ns w0 ns b)(h0:Below w0.heap.size w0 w)(hBi:Bi<w.heap.size)(hBt:Bt<w.heap.size)(hci:w.cell? ⟨Bi,0,none⟩=some (.int .i64 0))(hct:w.cell? ⟨Bt,0,none⟩=some (.pointer (some ⟨ns,0,none⟩))):
  SeqStopsK Fence.wide n prog 385 #[.pointer (some ⟨Bi,0,none⟩),.pointer (some ⟨Bt,0,none⟩)] (fun x:Int × Int=>#[Value.int .i64 x.1,Value.int .i64 x.2]) (KpN w0 Bi Bt) (fun ys=>ys=[((0:Int),(1:Int))]) (fun pre=>pre <+: [((0:Int),(1:Int))]) 1 w:=fun l J Jx W hW hJ _ hY hj=>
 nch1_in n hn l Bi Bt ns b _ w0 hN J Jx hJ hY W ((hW.cell (p:=⟨Bi,0,none⟩) hBi).trans hci) ((hW.cell (p:=⟨Bt,0,none⟩) hBt).trans hct) (h0.trans (hW.mono h0.size)) hj
theorem ncount_any(ns b:Nat)(w:World)(h:Ns w ns b): Calls prog 357 #[.pointer (some ⟨ns,0,none⟩),.int .i64 0] w fun e w'=>e=.returned (.tuple #[.int .i64 1,.int .i64 0])∧Below w.heap.size w w':=by
 refine (callsIn_wide (n:=5)).1 ?_
 refine callsIn_of_wp_marks func357 rfl trivial ?_ rfl
 simp only [ntmps357,List.size_toArray,List.length_cons,List.length_nil,Nat.reduceAdd,Nat.reduceSub,Array.replicate_succ,Array.replicate_zero,List.push_toArray,List.append_toArray,List.nil_append,List.cons_append]
 gi_wp2_with (first|(refine ⟨trivial,?_⟩;gi_at_call 230;refine (callsIn_wide.2 (node_0 ns b _ (h.below (by (repeat' (first|refine Below.setCell ?_ tq5 _|refine Below.alloc ?_ tq5 _|exact Hid.out aM|exact qR)))))).mono ?_;rintro e W1 ⟨rfl,m1,hm⟩;have hb1:Hid (Below w.heap.size w W1):=hid (hm ▸ below_drewN' (by (repeat' (first|refine Below.setCell ?_ tq5 _|refine Below.alloc ?_ tq5 _|exact Hid.out aM|exact qR))) m1);skip;clear hm;have hN1:Ns W1 ns b:=h.below hb1.out)|(refine ⟨trivial,?_⟩;gi_at_call 373;refine (nchildren_any _ ns _).mono ?_;rintro e w' ⟨rfl,rfl⟩))
 have hx0:=(Tx.Bx.new W1 (.int .i64 0) 3).alloc (.cells #[.pointer (some ⟨ns,0,none⟩)] 109) |>.alloc (.cells #[.int .i64 0] 3)
 have hx1:=(Tx.Bx.new (W1.alloc (.cells #[.int .i64 0] 3)) (.pointer (some ⟨ns,0,none⟩)) 109).alloc (.cells #[.int .i64 0] 3)
 have hx2:=Tx.Bx.new ((W1.alloc (.cells #[.int .i64 0] 3)).alloc (.cells #[.pointer (some ⟨ns,0,none⟩)] 109)) (.int .i64 0) 3
 simp only [World.size_alloc] at hx1 hx2
 have hB0:Below W1.heap.size W1 (((W1.alloc (.cells #[.int .i64 0] 3)).alloc (.cells #[.pointer (some ⟨ns,0,none⟩)] 109)).alloc (.cells #[.int .i64 0] 3)):=((qR.alloc qL _).alloc sM _).alloc (by simp;omega) _
 refine wpIn_rangeFunc_ownF rfl oM (gf:=385) (lb:=#[.pointer (some ⟨W1.heap.size+1+1,0,none⟩),.pointer (some ⟨W1.heap.size+1,0,none⟩)]) rfl trivial (enters_of func385 (by kernel_rfl) rfl)
  (nch_stops _ oM (W1.heap.size+1+1) (W1.heap.size+1) ns b W1 _ hN1 hB0 sM sM hx2.cells.1 hx1.cells.1) KpN.t (KpN.b (by simp;omega)) qR (fun _=>rfl)
  (fun pre W=>Tx.Bx W W1.heap.size (.int .i64 (pre.length:Nat)) 3∧Below W1.heap.size W1 W)
  (fun c pre W=>False)
  (OwnFrom.and (Own.from (fun s A B row hs hg hr=>hs.own hg hr) _) (ownFrom_below qL (by simp;omega)))
  (fun c s A B row hs hg hr=>hs.elim)
  ⟨hx0,hB0⟩
  (fun x=>{ tmps:=#[.pointer (some ⟨ns,0,none⟩),.int .i64 0,undef,undef,.int .i64 0,.int .i64 0,.pointer (some ⟨W1.heap.size,0,none⟩),.pointer (some ⟨ns,0,none⟩),.int .i64 0,.bool true,.bool false,.pointer (some ⟨ns,0,none⟩),.int .i64 0,.func (.func 385) #[] #[.pointer (some ⟨W1.heap.size+1+1,0,none⟩),.pointer (some ⟨W1.heap.size+1,0,none⟩)],.int .i64 x.1,.int .i64 x.2,undef,undef,undef],defers:=[] }) ?assign ?body ?done ?stop
 case assign=>
  intro l x W K hK
  gi_wp2
  simpa using hK
 case body=>
  rintro l pre x W ⟨hT,hB⟩ hlen
  obtain ⟨hc0,hf0⟩ :=hT.cells
  have hl0:pre.length=0:=oM
  gi_wp2
  refine ⟨KeepsOthers.setCell _ _ _,⟨fun v hv=>?_,fun v hv=>?_,fun k=>k.setCell (p:=⟨W1.heap.size,0,none⟩) qL _⟩,?_,hB.setCell (p:=⟨W1.heap.size,0,none⟩) qL _⟩
  ·rw [qO (by intro e;injection e with e1;omega)];exact hv
  ·rw [qO (by intro e;injection e with e1;omega)];exact hv
  ·have:=hT.set (.int .i64 1)
   rw [List.length_append,hl0]
   exact this
 case done=>
  rintro D ys W hD rfl ⟨hT,hB⟩ hK
  obtain ⟨hc0,hf0⟩ :=hT.cells
  gi_wp2
  refine ⟨by simp,.inl ⟨_,_,rfl,run_takeDeferred hK,?_⟩⟩
  refine ⟨.tuple #[.int .i64 1,.int .i64 0],?_,rfl,(hb1.out.trans (hB.mono hb1.out.size)).trans (belowK_b (w:=w) qL _ D _ _ (by have:=hb1.out.size;simp at hD;omega) hK rfl rfl)⟩
  simp [results,f357,go_sem]
 case stop=>
  rintro D c pre W hD hpre hf hK
  exact hf.elim
theorem nchild_any(ns b:Nat)(w:World)(h:Ns w ns b): Calls prog 352 #[.pointer (some ⟨ns,0,none⟩),.int .i64 0,.int .i64 0] w fun e w'=>e=.returned (.tuple #[.int .i64 1,.int .i64 0])∧Below w.heap.size w w':=by
 refine (callsIn_wide (n:=5)).1 ?_
 refine callsIn_of_wp_marks func352 rfl trivial ?_ rfl
 simp only [ntmps352,List.size_toArray,List.length_cons,List.length_nil,Nat.reduceAdd,Nat.reduceSub,Array.replicate_succ,Array.replicate_zero,List.push_toArray,List.append_toArray,List.nil_append,List.cons_append]
 gi_wp2_with (first|(refine ⟨trivial,?_⟩;gi_at_call 230;refine (callsIn_wide.2 (node_0 ns b _ (h.below (by (repeat' (first|refine Below.setCell ?_ tq5 _|refine Below.alloc ?_ tq5 _|exact Hid.out aM|exact qR)))))).mono ?_;rintro e W1 ⟨rfl,m1,hm⟩;have hb1:Hid (Below w.heap.size w W1):=hid (hm ▸ below_drewN' (by (repeat' (first|refine Below.setCell ?_ tq5 _|refine Below.alloc ?_ tq5 _|exact Hid.out aM|exact qR))) m1);have hW1:=hid hm;clear hm;have hN1:Ns W1 ns b:=h.below hb1.out)|(refine ⟨trivial,?_⟩;gi_at_call 373;refine (nchildren_any _ ns _).mono ?_;rintro e w' ⟨rfl,rfl⟩))
 have hy0:Tx.Bx W1 w.heap.size (.int .i64 0) 3:=by rw [hW1.out];exact (((Tx.Bx.new w _ _).alloc _).alloc _).below (below_drewN' qR _)
 have hy1:Tx.Bx W1 (w.heap.size+1) (.int .i64 0) 3:=by rw [hW1.out];simpa using (((Tx.Bx.new (w.alloc (.cells #[.int .i64 0] 3)) (.int .i64 0) 3).alloc (.cells #[.int .i64 0] 43))).below (below_drewN' qR m1)
 have hy2:Tx.Bx W1 (w.heap.size+1+1) (.int .i64 0) 43:=by rw [hW1.out];simpa using ((Tx.Bx.new ((w.alloc (.cells #[.int .i64 0] 3)).alloc (.cells #[.int .i64 0] 3)) (.int .i64 0) 43)).below (below_drewN' qR m1)
 have hsz:=hb1.out.size
 clear hW1
 have hx1:=(Tx.Bx.new W1 (.pointer (some ⟨ns,0,none⟩)) 109).alloc (.cells #[.int .i64 0] 3)
 have hx2:=Tx.Bx.new (W1.alloc (.cells #[.pointer (some ⟨ns,0,none⟩)] 109)) (.int .i64 0) 3
 simp only [World.size_alloc] at hx2
 have hB0:Below w.heap.size w ((W1.alloc (.cells #[.pointer (some ⟨ns,0,none⟩)] 109)).alloc (.cells #[.int .i64 0] 3)):=(hb1.out.alloc oM _).alloc (by simp;omega) _
 refine wpIn_rangeFunc_ownF rfl oM (gf:=385) (lb:=#[.pointer (some ⟨W1.heap.size+1,0,none⟩),.pointer (some ⟨W1.heap.size,0,none⟩)]) rfl trivial (enters_of func385 (by kernel_rfl) rfl)
  (nch_stops _ oM (W1.heap.size+1) W1.heap.size ns b w _ h hB0 sM (by simp;omega) hx2.cells.1 hx1.cells.1) KpN.t (KpN.b (by simp;omega)) qR (fun _=>rfl)
  (fun pre W=>((∀y∈pre,y.1≠0)∧Tx.Bx W w.heap.size (.int .i64 0) 3∧Tx.Bx W (w.heap.size+1) (.int .i64 0) 3∧Tx.Bx W (w.heap.size+1+1) (.int .i64 0) 43)∧Below w.heap.size w W)
  (fun c pre W=>(c=.ret∧(∃x,x.1=0∧(x.2=1∨x∈pre)∧Tx.Bx W (w.heap.size+1) (.int .i64 x.2) 3)∧Tx.Bx W (w.heap.size+1+1) (.int .i64 0) 43)∧Below w.heap.size w W)
  (OwnFrom.and (Own.from (fun s A B row hs hg hr=>⟨hs.1,hs.2.1.own hg hr,hs.2.2.1.own hg hr,hs.2.2.2.own hg hr⟩) _) (ownFrom_below qL (by simp;omega)))
  (fun c=>OwnFrom.and (Own.from (fun s A B row hs hg hr=>⟨hs.1,hs.2.1.elim fun x hx=>⟨x,hx.1,hx.2.1,hx.2.2.own hg hr⟩,hs.2.2.own hg hr⟩) _) (ownFrom_below qL (by simp;omega)))
  ⟨⟨by simp,(hy0.alloc _).alloc _,(hy1.alloc _).alloc _,(hy2.alloc _).alloc _⟩,hB0⟩
  (fun x=>{ tmps:=#[.pointer (some ⟨ns,0,none⟩),.int .i64 0,.int .i64 0,undef,undef,.pointer (some ⟨w.heap.size,0,none⟩),.pointer (some ⟨w.heap.size+1,0,none⟩),.pointer (some ⟨w.heap.size+1+1,0,none⟩),.int .i64 x.1,.int .i64 x.2,.pointer (some ⟨ns,0,none⟩),.int .i64 0,.bool true,.bool false,.pointer (some ⟨ns,0,none⟩),.int .i64 0,.func (.func 385) #[] #[.pointer (some ⟨W1.heap.size+1,0,none⟩),.pointer (some ⟨W1.heap.size,0,none⟩)],.int .i64 x.1,.int .i64 x.2,undef,undef,undef,undef],defers:=[] }) ?assign ?body ?done ?stop
 case assign=>
  intro l x W K hK
  gi_wp2
  simpa using hK
 case body=>
  rintro l pre x W ⟨⟨hp,hT0,hT1,hT2⟩,hB⟩ hlen
  obtain ⟨hc0,hf0⟩ :=hT0.cells
  obtain ⟨hc1,hf1⟩ :=hT1.cells
  obtain ⟨hc2,hf2⟩ :=hT2.cells
  by_cases hx:x.1=0
  ·have hxb:(x.1==0)=true:=by rw [beq_iff_eq];exact hx
   gi_wp2
   exact ⟨(KeepsOthers.setCell _ _ _).trans (KeepsOthers.setCell _ _ _),⟨rfl,⟨x,hx,.inr (List.mem_append.2 (.inr sM)),(hT1.set _).other oM _⟩,(hT2.other oM _).set _⟩,(hB.setCell (p:=⟨w.heap.size+1,0,none⟩) sM _).setCell (p:=⟨w.heap.size+1+1,0,none⟩) (by simp;omega) _⟩
  ·have hxb:(x.1==0)=false:=by rw [beq_eq_false_iff_ne];exact hx
   gi_wp2
   exact ⟨KeepsOthers.refl _,⟨fun v hv=>hv,fun v hv=>hv,fun k=>k⟩,⟨fun y hy=>(List.mem_append.1 hy).elim (hp y) (fun e e'=>by simp at e;subst e;exact hx e'),hT0,hT1,hT2⟩,hB⟩
 case done=>
  rintro D ys W hD rfl ⟨⟨hp,_⟩,hB⟩ hK
  exact absurd rfl (hp (0,1) sM)
 case stop=>
  rintro D c pre W hD hpre ⟨⟨rfl,⟨x,hx,hx2,hT1⟩,hT2⟩,hB⟩ hK
  have hx1:x.2=1:=hx2.elim id fun hm=>by
   have:=hpre.subset hm
   simp at this;rw [this]
  rw [hx1] at hT1
  gi_wp2
  refine ⟨by simp,.inl ⟨_,_,rfl,run_takeDeferred hK,?_⟩⟩
  have hc5:=cell_kept hT1.cells.1 (grownBy_putObj' _ D (.deferred none)) (fun r e=>by cases e;exact ⟨_,hK,rfl⟩)
  have hc6:=cell_kept hT2.cells.1 (grownBy_putObj' _ D (.deferred none)) (fun r e=>by cases e;exact ⟨_,hK,rfl⟩)
  refine ⟨.tuple #[.int .i64 1,.int .i64 0],?_,rfl,hB.trans (belowK_b (w:=w) qL W D _ _ (by simp at hD;omega) hK rfl rfl)⟩
  simp [results,f352,go_sem,hc5,hc6]
end
section
open Go.RowKit
theorem ccount_r(p n L:Nat)(T V:ByteArray)(hD:Doc T V n L)(w:World)(h:Ix w p T n): Calls prog 329 #[.agg #[.pointer (some ⟨p,0,none⟩),.int .i64 (-1)]] w fun e w'=>e=.returned (.int .i64 1)∧Below w.heap.size w w':=by
 have hn:=hD.n3
 have hn1:=hD.n1
 have hL:=hD.hL
 have hs:=hD.hn
 have hv:=hD.vs
 obtain ⟨sq,b,ns,a1,x0,x1,x2,x3,g1,g2,g3⟩ :=id h
 have hNe:=xnest_q p ns w a1 x2
 go_enter func329,ntmps329
 go_wp2_with fail
 refine (inner_r p n L T V hD _ (h.below tq4)).mono ?_;rintro e w1 ⟨rfl,hb1⟩
 have s1:=hb1.size;try simp at s1
 try (have:w.heap.size<w1.heap.size:=oM)
 try (have:w.heap.size<w1.heap.size+1:=oM)
 try (have:w.heap.size<w1.heap.size+1+1:=oM)
 try (have e1_0_0_0:=hb1.cl w.heap.size 0;simp [go_sem, *] at e1_0_0_0)
 try (have f1_0_0_0:=hb1.fz w.heap.size 0;simp [go_sem, *] at f1_0_0_0)
 try (have e1_0_0_1:=hb1.cl w.heap.size 1;simp [go_sem, *] at e1_0_0_1)
 try (have f1_0_0_1:=hb1.fz w.heap.size 1;simp [go_sem, *] at f1_0_0_1)
 have HB1:=bel_step (w:=w) tq4 hb1
 clear hb1
 go_wp2_with (first|(go_at_call 165;refine (hNe _ tq4).mono ?_;rintro e w9 ⟨rfl,m9,rfl⟩))
 refine (ncount_any ns b _ (g2.below tq4)).mono ?_;rintro e w2 ⟨rfl,hb2⟩
 have s2:=hb2.size;try simp at s2
 try (have:w.heap.size<w2.heap.size:=oM)
 try (have:w.heap.size<w2.heap.size+1:=oM)
 try (have:w.heap.size<w2.heap.size+1+1:=oM)
 try (have e2_0_0_0:=hb2.cl w.heap.size 0;simp [go_sem, *] at e2_0_0_0)
 try (have f2_0_0_0:=hb2.fz w.heap.size 0;simp [go_sem, *] at f2_0_0_0)
 try (have e2_0_0_1:=hb2.cl w.heap.size 1;simp [go_sem, *] at e2_0_0_1)
 try (have f2_0_0_1:=hb2.fz w.heap.size 1;simp [go_sem, *] at f2_0_0_1)
 have HB2:=bel_step (w:=w) tq4 hb2
 clear hb2
 go_wp2_with fail
 refine (kind_r p n L T V hD _ (h.below tq4)).mono ?_;rintro e w3 ⟨rfl,hb3⟩
 have s3:=hb3.size;try simp at s3
 try (have:w.heap.size<w3.heap.size:=oM)
 try (have:w.heap.size<w3.heap.size+1:=oM)
 try (have:w.heap.size<w3.heap.size+1+1:=oM)
 try (have e3_0_0_0:=hb3.cl w.heap.size 0;simp [go_sem, *] at e3_0_0_0)
 try (have f3_0_0_0:=hb3.fz w.heap.size 0;simp [go_sem, *] at f3_0_0_0)
 try (have e3_0_0_1:=hb3.cl w.heap.size 1;simp [go_sem, *] at e3_0_0_1)
 try (have f3_0_0_1:=hb3.fz w.heap.size 1;simp [go_sem, *] at f3_0_0_1)
 have HB3:=bel_step (w:=w) tq4 hb3
 clear hb3
 go_wp2_with fail
 go_ret
 exact ⟨rfl,tq4⟩
theorem cchild_r(p n L:Nat)(T V:ByteArray)(hD:Doc T V n L)(w:World)(h:Ix w p T n): Calls prog 314 #[.agg #[.pointer (some ⟨p,0,none⟩),.int .i64 (-1)],.int .i64 0] w fun e w'=>e=.returned (.tuple #[.agg #[.pointer (some ⟨p,0,none⟩),.int .i64 1],.bool true])∧Below w.heap.size w w':=by
 have hn:=hD.n3
 have hn1:=hD.n1
 have hL:=hD.hL
 have hs:=hD.hn
 have hv:=hD.vs
 obtain ⟨sq,b,ns,a1,x0,x1,x2,x3,g1,g2,g3⟩ :=id h
 have hNe:=xnest_q p ns w a1 x2
 go_enter func314,ntmps314
 go_wp2_with fail
 refine (inner_r p n L T V hD _ (h.below tq4)).mono ?_;rintro e w1 ⟨rfl,hb1⟩
 have s1:=hb1.size;try simp at s1
 try (have:w.heap.size<w1.heap.size:=oM)
 try (have:w.heap.size<w1.heap.size+1:=oM)
 try (have:w.heap.size<w1.heap.size+1+1:=oM)
 try (have:w.heap.size+1<w1.heap.size:=oM)
 try (have:w.heap.size+1<w1.heap.size+1:=oM)
 try (have:w.heap.size+1<w1.heap.size+1+1:=oM)
 try (have:w.heap.size+2<w1.heap.size:=oM)
 try (have:w.heap.size+2<w1.heap.size+1:=oM)
 try (have:w.heap.size+2<w1.heap.size+1+1:=oM)
 try (have e1_0_0_0:=hb1.cl w.heap.size 0;simp [go_sem, *] at e1_0_0_0)
 try (have f1_0_0_0:=hb1.fz w.heap.size 0;simp [go_sem, *] at f1_0_0_0)
 try (have e1_0_0_1:=hb1.cl w.heap.size 1;simp [go_sem, *] at e1_0_0_1)
 try (have f1_0_0_1:=hb1.fz w.heap.size 1;simp [go_sem, *] at f1_0_0_1)
 try (have e1_0_1_0:=hb1.cl (w.heap.size+1) 0;simp [go_sem, *] at e1_0_1_0)
 try (have f1_0_1_0:=hb1.fz (w.heap.size+1) 0;simp [go_sem, *] at f1_0_1_0)
 try (have e1_0_1_1:=hb1.cl (w.heap.size+1) 1;simp [go_sem, *] at e1_0_1_1)
 try (have f1_0_1_1:=hb1.fz (w.heap.size+1) 1;simp [go_sem, *] at f1_0_1_1)
 try (have e1_0_2_0:=hb1.cl (w.heap.size+2) 0;simp [go_sem, *] at e1_0_2_0)
 try (have f1_0_2_0:=hb1.fz (w.heap.size+2) 0;simp [go_sem, *] at f1_0_2_0)
 try (have e1_0_2_1:=hb1.cl (w.heap.size+2) 1;simp [go_sem, *] at e1_0_2_1)
 try (have f1_0_2_1:=hb1.fz (w.heap.size+2) 1;simp [go_sem, *] at f1_0_2_1)
 have HB1:=bel_step (w:=w) tq4 hb1
 clear hb1
 go_wp2_with fail
 refine (ccount_r p n L T V hD _ (h.below tq4)).mono ?_;rintro e w2 ⟨rfl,hb2⟩
 have s2:=hb2.size;try simp at s2
 try (have:w.heap.size<w2.heap.size:=oM)
 try (have:w.heap.size<w2.heap.size+1:=oM)
 try (have:w.heap.size<w2.heap.size+1+1:=oM)
 try (have:w.heap.size+1<w2.heap.size:=oM)
 try (have:w.heap.size+1<w2.heap.size+1:=oM)
 try (have:w.heap.size+1<w2.heap.size+1+1:=oM)
 try (have:w.heap.size+2<w2.heap.size:=oM)
 try (have:w.heap.size+2<w2.heap.size+1:=oM)
 try (have:w.heap.size+2<w2.heap.size+1+1:=oM)
 try (have e2_0_0_0:=hb2.cl w.heap.size 0;simp [go_sem, *] at e2_0_0_0)
 try (have f2_0_0_0:=hb2.fz w.heap.size 0;simp [go_sem, *] at f2_0_0_0)
 try (have e2_0_0_1:=hb2.cl w.heap.size 1;simp [go_sem, *] at e2_0_0_1)
 try (have f2_0_0_1:=hb2.fz w.heap.size 1;simp [go_sem, *] at f2_0_0_1)
 try (have e2_0_1_0:=hb2.cl (w.heap.size+1) 0;simp [go_sem, *] at e2_0_1_0)
 try (have f2_0_1_0:=hb2.fz (w.heap.size+1) 0;simp [go_sem, *] at f2_0_1_0)
 try (have e2_0_1_1:=hb2.cl (w.heap.size+1) 1;simp [go_sem, *] at e2_0_1_1)
 try (have f2_0_1_1:=hb2.fz (w.heap.size+1) 1;simp [go_sem, *] at f2_0_1_1)
 try (have e2_0_2_0:=hb2.cl (w.heap.size+2) 0;simp [go_sem, *] at e2_0_2_0)
 try (have f2_0_2_0:=hb2.fz (w.heap.size+2) 0;simp [go_sem, *] at f2_0_2_0)
 try (have e2_0_2_1:=hb2.cl (w.heap.size+2) 1;simp [go_sem, *] at e2_0_2_1)
 try (have f2_0_2_1:=hb2.fz (w.heap.size+2) 1;simp [go_sem, *] at f2_0_2_1)
 have HB2:=bel_step (w:=w) tq4 hb2
 clear hb2
 go_wp2_with fail
 refine (kind_r p n L T V hD _ (h.below tq4)).mono ?_;rintro e w3 ⟨rfl,hb3⟩
 have s3:=hb3.size;try simp at s3
 try (have:w.heap.size<w3.heap.size:=oM)
 try (have:w.heap.size<w3.heap.size+1:=oM)
 try (have:w.heap.size<w3.heap.size+1+1:=oM)
 try (have:w.heap.size+1<w3.heap.size:=oM)
 try (have:w.heap.size+1<w3.heap.size+1:=oM)
 try (have:w.heap.size+1<w3.heap.size+1+1:=oM)
 try (have:w.heap.size+2<w3.heap.size:=oM)
 try (have:w.heap.size+2<w3.heap.size+1:=oM)
 try (have:w.heap.size+2<w3.heap.size+1+1:=oM)
 try (have e3_0_0_0:=hb3.cl w.heap.size 0;simp [go_sem, *] at e3_0_0_0)
 try (have f3_0_0_0:=hb3.fz w.heap.size 0;simp [go_sem, *] at f3_0_0_0)
 try (have e3_0_0_1:=hb3.cl w.heap.size 1;simp [go_sem, *] at e3_0_0_1)
 try (have f3_0_0_1:=hb3.fz w.heap.size 1;simp [go_sem, *] at f3_0_0_1)
 try (have e3_0_1_0:=hb3.cl (w.heap.size+1) 0;simp [go_sem, *] at e3_0_1_0)
 try (have f3_0_1_0:=hb3.fz (w.heap.size+1) 0;simp [go_sem, *] at f3_0_1_0)
 try (have e3_0_1_1:=hb3.cl (w.heap.size+1) 1;simp [go_sem, *] at e3_0_1_1)
 try (have f3_0_1_1:=hb3.fz (w.heap.size+1) 1;simp [go_sem, *] at f3_0_1_1)
 try (have e3_0_2_0:=hb3.cl (w.heap.size+2) 0;simp [go_sem, *] at e3_0_2_0)
 try (have f3_0_2_0:=hb3.fz (w.heap.size+2) 0;simp [go_sem, *] at f3_0_2_0)
 try (have e3_0_2_1:=hb3.cl (w.heap.size+2) 1;simp [go_sem, *] at e3_0_2_1)
 try (have f3_0_2_1:=hb3.fz (w.heap.size+2) 1;simp [go_sem, *] at f3_0_2_1)
 have HB3:=bel_step (w:=w) tq4 hb3
 clear hb3
 go_wp2_with (first|(go_at_call 165;refine (hNe _ tq4).mono ?_;rintro e w9 ⟨rfl,m9,rfl⟩))
 refine (nchild_any ns b _ (g2.below tq4)).mono ?_;rintro e w4 ⟨rfl,hb4⟩
 have s4:=hb4.size;try simp at s4
 try (have:w.heap.size<w4.heap.size:=oM)
 try (have:w.heap.size<w4.heap.size+1:=oM)
 try (have:w.heap.size<w4.heap.size+1+1:=oM)
 try (have:w.heap.size+1<w4.heap.size:=oM)
 try (have:w.heap.size+1<w4.heap.size+1:=oM)
 try (have:w.heap.size+1<w4.heap.size+1+1:=oM)
 try (have:w.heap.size+2<w4.heap.size:=oM)
 try (have:w.heap.size+2<w4.heap.size+1:=oM)
 try (have:w.heap.size+2<w4.heap.size+1+1:=oM)
 try (have e4_0_0_0:=hb4.cl w.heap.size 0;simp [go_sem, *] at e4_0_0_0)
 try (have f4_0_0_0:=hb4.fz w.heap.size 0;simp [go_sem, *] at f4_0_0_0)
 try (have e4_0_0_1:=hb4.cl w.heap.size 1;simp [go_sem, *] at e4_0_0_1)
 try (have f4_0_0_1:=hb4.fz w.heap.size 1;simp [go_sem, *] at f4_0_0_1)
 try (have e4_0_1_0:=hb4.cl (w.heap.size+1) 0;simp [go_sem, *] at e4_0_1_0)
 try (have f4_0_1_0:=hb4.fz (w.heap.size+1) 0;simp [go_sem, *] at f4_0_1_0)
 try (have e4_0_1_1:=hb4.cl (w.heap.size+1) 1;simp [go_sem, *] at e4_0_1_1)
 try (have f4_0_1_1:=hb4.fz (w.heap.size+1) 1;simp [go_sem, *] at f4_0_1_1)
 try (have e4_0_2_0:=hb4.cl (w.heap.size+2) 0;simp [go_sem, *] at e4_0_2_0)
 try (have f4_0_2_0:=hb4.fz (w.heap.size+2) 0;simp [go_sem, *] at f4_0_2_0)
 try (have e4_0_2_1:=hb4.cl (w.heap.size+2) 1;simp [go_sem, *] at e4_0_2_1)
 try (have f4_0_2_1:=hb4.fz (w.heap.size+2) 1;simp [go_sem, *] at f4_0_2_1)
 have HB4:=bel_step (w:=w) tq4 hb4
 clear hb4
 go_wp2_with fail
 try simp only [Exit.inBlock,Exit.then]
 refine bodyPost_ret (v:=.tuple #[.agg #[.pointer (some ⟨p,0,none⟩),.int .i64 1],.bool true]) (by simp [results,results314,go_sem, *]) rfl ⟨rfl,tq4⟩
end
end Go.Proofs.YtjcioljdlfdnbaaGreatDoor
