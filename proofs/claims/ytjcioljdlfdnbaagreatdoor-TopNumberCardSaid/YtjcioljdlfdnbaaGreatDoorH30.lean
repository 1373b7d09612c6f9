/- Part 30: lemmas for TopNumber; no conditions. -/
import Derived.Test.YtjcioljdlfdnbaaGreatDoorH28
import Derived.Test.YtjcioljdlfdnbaaGreatDoorH29
set_option linter.unusedVariables false
set_option linter.unusedSimpArgs false
set_option maxRecDepth 100000
set_option maxHeartbeats 2000000
open Go.Proofs.Tryz
namespace Go.Proofs.YtjcioljdlfdnbaaGreatDoor
namespace Nn
open Go.RowKit
theorem fsound(gp cp gs cs gl cl gi ci:Nat)(k0:2≤cp)(k1:1≤cs)(k2:1≤cl)(k3:2≤ci)(sg n:Int)(g0:0≤sg)(g5:sg≤5)(w:World)(h:Cdf gp gs gl gi sg n w): Calls prog 85 #[.agg #[.slice (some ⟨gp,0,none⟩) 2 (cp:Nat),.slice (some ⟨gs,0,none⟩) 1 (cs:Nat),.slice (some ⟨gl,0,none⟩) 1 (cl:Nat),.slice (some ⟨gi,0,none⟩) 2 (ci:Nat)]] w fun e w'=>e=.returned (.bool true)∧Below w.heap.size w w':=by
 have:∀(fn:Fn) (first cap:Array Value) (w:World),(Instr.makeFunc fn first cap).run prog w=.ok (.func fn first cap) w:=fun _ _ _ _=>rfl
 go_enter_defers func85,ntmps85
 have lgp:=h.p.lt
 have:gp<w.heap.size+1:=oM
 have:gp<w.heap.size+1+1:=oM
 have:gp<w.heap.size+1+1+1:=oM
 have:gp<w.heap.size+1+1+1+1:=oM
 have:gp<w.heap.size+1+1+1+1+1:=oM
 have lgs:=h.s.lt
 have:gs<w.heap.size+1:=oM
 have:gs<w.heap.size+1+1:=oM
 have:gs<w.heap.size+1+1+1:=oM
 have:gs<w.heap.size+1+1+1+1:=oM
 have:gs<w.heap.size+1+1+1+1+1:=oM
 have lgl:=h.l.lt
 have:gl<w.heap.size+1:=oM
 have:gl<w.heap.size+1+1:=oM
 have:gl<w.heap.size+1+1+1:=oM
 have:gl<w.heap.size+1+1+1+1:=oM
 have:gl<w.heap.size+1+1+1+1+1:=oM
 have dp0:=h.p.c 0 _ rfl
 have dp1:=h.p.c 1 _ rfl
 have dp2:=h.p.c 2 _ rfl
 have dp3:=h.p.c 3 _ rfl
 have dp4:=h.p.c 4 _ rfl
 have dp5:=h.p.c 5 _ rfl
 have ds0:=h.s.c 0 _ rfl
 have ds1:=h.s.c 1 _ rfl
 have ds2:=h.s.c 2 _ rfl
 have dl0:=h.l.c 0 _ rfl
 have dl1:=h.l.c 1 _ rfl
 have dl2:=h.l.c 2 _ rfl
 have dl3:=h.l.c 3 _ rfl
 have dl4:=h.l.c 4 _ rfl
 have dl5:=h.l.c 5 _ rfl
 have dl6:=h.l.c 6 _ rfl
 have dl7:=h.l.c 7 _ rfl
 have:(1:Int)≤(cs:Int):=oM
 have:(1:Int)≤(cl:Int):=oM
 have:¬(cs:Int)<1:=oM
 have:¬(cl:Int)<1:=oM
 go_wp2_with (first|(go_at_call 159;refine (need_t _).mono ?_;rintro e w9 ⟨rfl,rfl⟩)|(go_at_call 161;(with_reducible show Calls prog 161 #[.int .i64 0,.int .i64 1,.int .i64 1] _ _);refine (within_1 _).mono ?_;rintro e w9 ⟨rfl,rfl⟩)|(go_at_call 161;(with_reducible show Calls prog 161 #[.int .i64 1,.int .i64 1,.int .i64 1] _ _);refine (within_2 _).mono ?_;rintro e w9 ⟨rfl,rfl⟩)|(refine wp_loop_unr 4 ?_;refine Unr.step ?_;intro U hU)|(refine Unr.step ?_;intro U hU))
 refine (fpath_0 gp cp gs cs gl cl gi ci k0 k1 k2 k3 sg n _ (h.below tq4)).mono ?_;rintro e w1 ⟨rfl,hb1⟩
 have s1:=hb1.size;try simp at s1
 have:w.heap.size<w1.heap.size:=oM
 have:w.heap.size<w1.heap.size+1:=oM
 have:w.heap.size<w1.heap.size+1+1:=oM
 have:w.heap.size<w1.heap.size+1+1+1:=oM
 have:w.heap.size<w1.heap.size+1+1+1+1:=oM
 have:w.heap.size<w1.heap.size+1+1+1+1+1:=oM
 have:w.heap.size<w1.heap.size+1+1+1+1+1+1:=oM
 have:w.heap.size<w1.heap.size+1+1+1+1+1+1+1:=oM
 have:w.heap.size<w1.heap.size+1+1+1+1+1+1+1+1:=oM
 have e1_0_0:=hb1.cl w.heap.size 0;simp [go_sem, *] at e1_0_0
 have e1_0_1:=hb1.cl w.heap.size 1;simp [go_sem, *] at e1_0_1
 have e1_0_2:=hb1.cl w.heap.size 2;simp [go_sem, *] at e1_0_2
 have e1_0_3:=hb1.cl w.heap.size 3;simp [go_sem, *] at e1_0_3
 have:w.heap.size+1<w1.heap.size:=oM
 have:w.heap.size+1<w1.heap.size+1:=oM
 have:w.heap.size+1<w1.heap.size+1+1:=oM
 have:w.heap.size+1<w1.heap.size+1+1+1:=oM
 have:w.heap.size+1<w1.heap.size+1+1+1+1:=oM
 have:w.heap.size+1<w1.heap.size+1+1+1+1+1:=oM
 have:w.heap.size+1<w1.heap.size+1+1+1+1+1+1:=oM
 have:w.heap.size+1<w1.heap.size+1+1+1+1+1+1+1:=oM
 have:w.heap.size+1<w1.heap.size+1+1+1+1+1+1+1+1:=oM
 have e1_1_0:=hb1.cl (w.heap.size+1) 0;simp [go_sem, *] at e1_1_0
 have f1_1_0:=hb1.fz (w.heap.size+1) 0;simp [go_sem, *] at f1_1_0
 have HB1:=bel_step (w:=w) tq4 hb1
 clear hb1
 have h1:=h.below HB1.out
 have lxgp:=h1.p.lt
 have:gp<w1.heap.size+1:=oM
 have:gp<w1.heap.size+1+1:=oM
 have:gp<w1.heap.size+1+1+1:=oM
 have:gp<w1.heap.size+1+1+1+1:=oM
 have:gp<w1.heap.size+1+1+1+1+1:=oM
 have lxgs:=h1.s.lt
 have:gs<w1.heap.size+1:=oM
 have:gs<w1.heap.size+1+1:=oM
 have:gs<w1.heap.size+1+1+1:=oM
 have:gs<w1.heap.size+1+1+1+1:=oM
 have:gs<w1.heap.size+1+1+1+1+1:=oM
 have lxgl:=h1.l.lt
 have:gl<w1.heap.size+1:=oM
 have:gl<w1.heap.size+1+1:=oM
 have:gl<w1.heap.size+1+1+1:=oM
 have:gl<w1.heap.size+1+1+1+1:=oM
 have:gl<w1.heap.size+1+1+1+1+1:=oM
 have dxp0:=h1.p.c 0 _ rfl
 have dxp1:=h1.p.c 1 _ rfl
 have dxp2:=h1.p.c 2 _ rfl
 have dxp3:=h1.p.c 3 _ rfl
 have dxp4:=h1.p.c 4 _ rfl
 have dxp5:=h1.p.c 5 _ rfl
 have dxs0:=h1.s.c 0 _ rfl
 have dxs1:=h1.s.c 1 _ rfl
 have dxs2:=h1.s.c 2 _ rfl
 have dxl0:=h1.l.c 0 _ rfl
 have dxl1:=h1.l.c 1 _ rfl
 have dxl2:=h1.l.c 2 _ rfl
 have dxl3:=h1.l.c 3 _ rfl
 have dxl4:=h1.l.c 4 _ rfl
 have dxl5:=h1.l.c 5 _ rfl
 have dxl6:=h1.l.c 6 _ rfl
 have dxl7:=h1.l.c 7 _ rfl
 go_wp2_with (first|(go_at_call 159;refine (need_t _).mono ?_;rintro e w9 ⟨rfl,rfl⟩)|(go_at_call 161;(with_reducible show Calls prog 161 #[.int .i64 0,.int .i64 1,.int .i64 1] _ _);refine (within_1 _).mono ?_;rintro e w9 ⟨rfl,rfl⟩)|(go_at_call 161;(with_reducible show Calls prog 161 #[.int .i64 1,.int .i64 1,.int .i64 1] _ _);refine (within_2 _).mono ?_;rintro e w9 ⟨rfl,rfl⟩)|(refine wp_loop_unr 4 ?_;refine Unr.step ?_;intro U hU)|(refine Unr.step ?_;intro U hU))
 refine (fpath_1 gp cp gs cs gl cl gi ci k0 k1 k2 k3 sg n _ (h1.below tq4)).mono ?_;rintro e w2 ⟨rfl,hb2⟩
 have s2:=hb2.size;try simp at s2
 have:w.heap.size<w2.heap.size:=oM
 have:w.heap.size<w2.heap.size+1:=oM
 have:w.heap.size<w2.heap.size+1+1:=oM
 have:w.heap.size<w2.heap.size+1+1+1:=oM
 have:w.heap.size<w2.heap.size+1+1+1+1:=oM
 have:w.heap.size<w2.heap.size+1+1+1+1+1:=oM
 have:w.heap.size<w2.heap.size+1+1+1+1+1+1:=oM
 have:w.heap.size<w2.heap.size+1+1+1+1+1+1+1:=oM
 have:w.heap.size<w2.heap.size+1+1+1+1+1+1+1+1:=oM
 have e2_0_0:=hb2.cl w.heap.size 0;simp [go_sem, *] at e2_0_0
 have e2_0_1:=hb2.cl w.heap.size 1;simp [go_sem, *] at e2_0_1
 have e2_0_2:=hb2.cl w.heap.size 2;simp [go_sem, *] at e2_0_2
 have e2_0_3:=hb2.cl w.heap.size 3;simp [go_sem, *] at e2_0_3
 have:w.heap.size+1<w2.heap.size:=oM
 have:w.heap.size+1<w2.heap.size+1:=oM
 have:w.heap.size+1<w2.heap.size+1+1:=oM
 have:w.heap.size+1<w2.heap.size+1+1+1:=oM
 have:w.heap.size+1<w2.heap.size+1+1+1+1:=oM
 have:w.heap.size+1<w2.heap.size+1+1+1+1+1:=oM
 have:w.heap.size+1<w2.heap.size+1+1+1+1+1+1:=oM
 have:w.heap.size+1<w2.heap.size+1+1+1+1+1+1+1:=oM
 have:w.heap.size+1<w2.heap.size+1+1+1+1+1+1+1+1:=oM
 have e2_1_0:=hb2.cl (w.heap.size+1) 0;simp [go_sem, *] at e2_1_0
 have f2_1_0:=hb2.fz (w.heap.size+1) 0;simp [go_sem, *] at f2_1_0
 have HB2:=bel_step (w:=w) tq4 hb2
 clear hb2
 have h2:=h.below HB2.out
 have lygp:=h2.p.lt
 have:gp<w2.heap.size+1:=oM
 have:gp<w2.heap.size+1+1:=oM
 have:gp<w2.heap.size+1+1+1:=oM
 have:gp<w2.heap.size+1+1+1+1:=oM
 have:gp<w2.heap.size+1+1+1+1+1:=oM
 have lygs:=h2.s.lt
 have:gs<w2.heap.size+1:=oM
 have:gs<w2.heap.size+1+1:=oM
 have:gs<w2.heap.size+1+1+1:=oM
 have:gs<w2.heap.size+1+1+1+1:=oM
 have:gs<w2.heap.size+1+1+1+1+1:=oM
 have lygl:=h2.l.lt
 have:gl<w2.heap.size+1:=oM
 have:gl<w2.heap.size+1+1:=oM
 have:gl<w2.heap.size+1+1+1:=oM
 have:gl<w2.heap.size+1+1+1+1:=oM
 have:gl<w2.heap.size+1+1+1+1+1:=oM
 have dyp0:=h2.p.c 0 _ rfl
 have dyp1:=h2.p.c 1 _ rfl
 have dyp2:=h2.p.c 2 _ rfl
 have dyp3:=h2.p.c 3 _ rfl
 have dyp4:=h2.p.c 4 _ rfl
 have dyp5:=h2.p.c 5 _ rfl
 have dys0:=h2.s.c 0 _ rfl
 have dys1:=h2.s.c 1 _ rfl
 have dys2:=h2.s.c 2 _ rfl
 have dyl0:=h2.l.c 0 _ rfl
 have dyl1:=h2.l.c 1 _ rfl
 have dyl2:=h2.l.c 2 _ rfl
 have dyl3:=h2.l.c 3 _ rfl
 have dyl4:=h2.l.c 4 _ rfl
 have dyl5:=h2.l.c 5 _ rfl
 have dyl6:=h2.l.c 6 _ rfl
 have dyl7:=h2.l.c 7 _ rfl
 go_wp2_with (first|(go_at_call 159;refine (need_t _).mono ?_;rintro e w9 ⟨rfl,rfl⟩)|(go_at_call 161;(with_reducible show Calls prog 161 #[.int .i64 0,.int .i64 1,.int .i64 1] _ _);refine (within_1 _).mono ?_;rintro e w9 ⟨rfl,rfl⟩)|(go_at_call 161;(with_reducible show Calls prog 161 #[.int .i64 1,.int .i64 1,.int .i64 1] _ _);refine (within_2 _).mono ?_;rintro e w9 ⟨rfl,rfl⟩)|(refine wp_loop_unr 4 ?_;refine Unr.step ?_;intro U hU)|(refine Unr.step ?_;intro U hU))
 refine (fins gp cp gs cs gl cl gi ci k0 k1 k2 k3 sg n g0 g5 _ (h2.below tq4)).mono ?_;rintro e w3 ⟨rfl,hb3⟩
 have s3:=hb3.size;try simp at s3
 have:w.heap.size<w3.heap.size:=oM
 have:w.heap.size<w3.heap.size+1:=oM
 have:w.heap.size<w3.heap.size+1+1:=oM
 have:w.heap.size<w3.heap.size+1+1+1:=oM
 have:w.heap.size<w3.heap.size+1+1+1+1:=oM
 have:w.heap.size<w3.heap.size+1+1+1+1+1:=oM
 have:w.heap.size<w3.heap.size+1+1+1+1+1+1:=oM
 have:w.heap.size<w3.heap.size+1+1+1+1+1+1+1:=oM
 have:w.heap.size<w3.heap.size+1+1+1+1+1+1+1+1:=oM
 have e3_0_0:=hb3.cl w.heap.size 0;simp [go_sem, *] at e3_0_0
 have e3_0_1:=hb3.cl w.heap.size 1;simp [go_sem, *] at e3_0_1
 have e3_0_2:=hb3.cl w.heap.size 2;simp [go_sem, *] at e3_0_2
 have e3_0_3:=hb3.cl w.heap.size 3;simp [go_sem, *] at e3_0_3
 have:w.heap.size+1<w3.heap.size:=oM
 have:w.heap.size+1<w3.heap.size+1:=oM
 have:w.heap.size+1<w3.heap.size+1+1:=oM
 have:w.heap.size+1<w3.heap.size+1+1+1:=oM
 have:w.heap.size+1<w3.heap.size+1+1+1+1:=oM
 have:w.heap.size+1<w3.heap.size+1+1+1+1+1:=oM
 have:w.heap.size+1<w3.heap.size+1+1+1+1+1+1:=oM
 have:w.heap.size+1<w3.heap.size+1+1+1+1+1+1+1:=oM
 have:w.heap.size+1<w3.heap.size+1+1+1+1+1+1+1+1:=oM
 have e3_1_0:=hb3.cl (w.heap.size+1) 0;simp [go_sem, *] at e3_1_0
 have f3_1_0:=hb3.fz (w.heap.size+1) 0;simp [go_sem, *] at f3_1_0
 have HB3:=bel_step (w:=w) tq4 hb3
 clear hb3
 have h3:=h.below HB3.out
 have lzgp:=h3.p.lt
 have:gp<w3.heap.size+1:=oM
 have:gp<w3.heap.size+1+1:=oM
 have:gp<w3.heap.size+1+1+1:=oM
 have:gp<w3.heap.size+1+1+1+1:=oM
 have:gp<w3.heap.size+1+1+1+1+1:=oM
 have lzgs:=h3.s.lt
 have:gs<w3.heap.size+1:=oM
 have:gs<w3.heap.size+1+1:=oM
 have:gs<w3.heap.size+1+1+1:=oM
 have:gs<w3.heap.size+1+1+1+1:=oM
 have:gs<w3.heap.size+1+1+1+1+1:=oM
 have lzgl:=h3.l.lt
 have:gl<w3.heap.size+1:=oM
 have:gl<w3.heap.size+1+1:=oM
 have:gl<w3.heap.size+1+1+1:=oM
 have:gl<w3.heap.size+1+1+1+1:=oM
 have:gl<w3.heap.size+1+1+1+1+1:=oM
 have dzp0:=h3.p.c 0 _ rfl
 have dzp1:=h3.p.c 1 _ rfl
 have dzp2:=h3.p.c 2 _ rfl
 have dzp3:=h3.p.c 3 _ rfl
 have dzp4:=h3.p.c 4 _ rfl
 have dzp5:=h3.p.c 5 _ rfl
 have dzs0:=h3.s.c 0 _ rfl
 have dzs1:=h3.s.c 1 _ rfl
 have dzs2:=h3.s.c 2 _ rfl
 have dzl0:=h3.l.c 0 _ rfl
 have dzl1:=h3.l.c 1 _ rfl
 have dzl2:=h3.l.c 2 _ rfl
 have dzl3:=h3.l.c 3 _ rfl
 have dzl4:=h3.l.c 4 _ rfl
 have dzl5:=h3.l.c 5 _ rfl
 have dzl6:=h3.l.c 6 _ rfl
 have dzl7:=h3.l.c 7 _ rfl
 go_wp2_with (first|(go_at_call 159;refine (need_t _).mono ?_;rintro e w9 ⟨rfl,rfl⟩)|(go_at_call 161;(with_reducible show Calls prog 161 #[.int .i64 0,.int .i64 1,.int .i64 1] _ _);refine (within_1 _).mono ?_;rintro e w9 ⟨rfl,rfl⟩)|(go_at_call 161;(with_reducible show Calls prog 161 #[.int .i64 1,.int .i64 1,.int .i64 1] _ _);refine (within_2 _).mono ?_;rintro e w9 ⟨rfl,rfl⟩)|(refine wp_loop_unr 4 ?_;refine Unr.step ?_;intro U hU)|(refine Unr.step ?_;intro U hU))
 all_goals (refine leaves_cons (f:=158) (args:=#[.pointer (some ⟨w.heap.size+1,0,none⟩)]) sM (by simp [go_sem]) ?_)
 all_goals (refine (caught_idle ⟨w.heap.size+1,0,none⟩ _ (by simp [go_sem, *]) (by simp [go_sem, *])).mono ?_)
 all_goals (rintro e u' w'' ⟨rfl,rfl,rfl⟩)
 all_goals (simp [Leaves,settle,results,results85,go_sem, *])
 all_goals ((repeat' (first|refine Below.setCell ?_ tq3 _|refine Below.alloc ?_ tq3 _|refine below_drewN' ?_ _|refine Below.drew ?_|exact Hid.out aM|exact qR)))
end Nn
namespace Nn
open Go.RowKit
attribute [local go_sem] run_store_nilFunc run_store_func eqn_nil eqn_func
theorem run_f(p n L:Nat)(T V:ByteArray)(hD:Doc T V n L)(hV:0<V.size)(c0:Int)(hc:((V[0]'hV).toNat:Int)=c0)(hk:c0=45∨48≤c0∧c0≤57)(sg:Nat)(hsg:sg<6)(nn hh:Int)(gp cp gs cs gl cl gi ci m a:Nat)(mo:Int)(hmo:1≤mo)(w0:World)(hX:Ix w0 p T n)(hN:CmpQ w0 V nn hh)(ham:a≠m)(hag:gp≠a∧gs≠a∧gl≠a∧gi≠a)(hmg:gp≠m∧gs≠m∧gl≠m∧gi≠m)(hBa:w0.heap.size≤a)(hBm:w0.heap.size≤m)(w:World)(h0:Below w0.heap.size w0 w)(hW:Wk m (.slice none 0 0) (.slice none 0 0) mo a w)(hM:Mf gp cp gs cs gl cl gi ci p 0 m w)(hC:Cdf gp gs gl gi (sg:Nat) nn w): Calls prog 163 #[.pointer (some ⟨a,0,none⟩),.agg #[.pointer (some ⟨p,0,none⟩),.int .i64 (-1)]] w fun e w'=>RunF w0 m a p mo (sgB sg hh) e w':=by
 go_enter func163,ntmps163
 have alt:=hW.lt
 have:a<w.heap.size+1:=oM
 have:a<w.heap.size+1+1:=oM
 have aw0:=hW.c0
 have aw1:=hW.c1
 have aw2:=hW.c2
 have aw3:=hW.c3
 have aw4:=hW.c4
 have aw5:=hW.c5
 have aw6:=hW.c6
 have aw7:=hW.c7
 have awz4:=hW.z4
 have awz5:=hW.z5
 have awz7:=hW.z7
 have mlt:=hM.lt
 have:m<w.heap.size+1:=oM
 have:m<w.heap.size+1+1:=oM
 have m0:=hM.c0
 have m1:=hM.c1
 have m2:=hM.c2
 have m3:=hM.c3
 have m4:=hM.c4
 have m5:=hM.c5
 have m6:=hM.c6
 have mz6:=hM.z6
 go_wp2_with fail
 refine wp_scope_pass (fun n l x w'=>l=0∧Ac a x∧(n=3∧FtA w0 a m gp cp gs cs gl cl gi ci sg nn mo p w'∨n=2∧sgB sg hh=true∧FtB w0 a m gp cp gs cs gl cl gi ci sg nn mo p w'∨n=1∧FtC w0 a m gp cp gs cs gl cl gi ci sg nn mo p (sgB sg hh) w'∨n=0∧FtD w0 a m p mo (sgB sg hh) w')) 4 ?_ ?_
 ·rintro q l x w' ⟨rfl,hx,⟨rfl,hS⟩|⟨rfl,ht,hS⟩|⟨rfl,hS⟩|⟨rfl,hS⟩⟩
  ·by_cases hb:sgB sg hh=true
   ·exact ftA_t w0 a m gp cp gs cs gl cl gi ci sg nn mo hmo p n L T V hD hX hV c0 hc hk hsg hh hN hb _ _ x w' hx hS (fun a' W' h1 h2=>⟨2,by omega,rfl,h1,.inr (.inl ⟨rfl,hb,h2⟩)⟩)
   ·have hb2:sgB sg hh=false:=by simpa using hb
    exact ftA_f w0 a m gp cp gs cs gl cl gi ci sg nn mo hmo p n L T V hD hX hV c0 hc hk hsg hh hN hb2 _ _ x w' hx hS (fun a' W' h1 h2=>⟨1,by omega,rfl,h1,.inr (.inr (.inl ⟨rfl,by rw [hb2];exact h2⟩))⟩)
  ·exact ftB_s w0 a m gp cp gs cs gl cl gi ci sg nn mo p n L T V hD hX _ _ x w' hx hS (fun a' W' h1 h2=>⟨1,by omega,rfl,h1,.inr (.inr (.inl ⟨rfl,by rw [ht];exact h2⟩))⟩)
  ·exact ftC_s w0 a m gp cp gs cs gl cl gi ci sg nn mo p n L T V hD hX (sgB sg hh) _ _ x w' hx hS (fun a' W' h1 h2=>⟨0,by omega,rfl,h1,.inr (.inr (.inr ⟨rfl,h2⟩))⟩)
  ·exact ftD_s w0 a m p mo (sgB sg hh) _ _ x w' hx hS (fun ts W' h=>bodyPost_ret (results_none rfl _ _ _) rfl h)
 ·intro hin
  go_wp2_with fail
  apply wp_cut2 (fun g c W'=>Hid (RF w0 a m p gp cp gs cs gl cl gi ci sg nn g mo (.slice (some ⟨g,0,none⟩) 1 c) (.slice none 0 0) 0 .nilFunc 0 W'))
  ·go_region_law ((first|(go_simp;go_at_call 224;refine (meet_f gp cp gs cs gl cl gi ci p m a sg nn _ mo _ (hW.below tq4) (hM.below tq4) (hC.below tq4)).mono ?_;rintro e w1 ⟨rfl,g,c,W1,rfl,hb,hg,hF⟩;have HB:=bel_step (w:=w) tq4 hb;clear hb)))
   all_goals
    have l1:=hW.lt
    have l2:=hM.lt
    have l3:=hC.p.lt
    have l4:=hC.s.lt
    have l5:=hC.l.lt
    have l7:=hC.i.lt
    have l6:=h0.size
    simp at hg
    exact ⟨g,c,rfl,hid (RF.setS (st:=.slice none 0 0) ⟨hW.below HB.out,hM.below HB.out,hC.below HB.out,hF,h0.trans (HB.out.mono h0.size),hBa,hBm,by omega,ham,by omega,by omega,hag.1,hmg.1,by omega,hag.2.1,hmg.2.1,by omega,hag.2.2.1,hmg.2.2.1,by omega,hag.2.2.2,hmg.2.2.2,by omega⟩ _)⟩
  rintro g c W H0
  clear h0
  go_wp2_with fail
  go_step3
  rename_i hK
  exact hK _ _ <| hin 3 0 _ _ _ oM rfl ⟨rfl,⟨rfl,rfl,rfl⟩,.inl ⟨rfl,g,c,H0.out⟩⟩
def WalkF (w0:World) (p:Nat) (b:Bool) (e:Ending) (w':World):Prop:=∃fd,e=.returned (.tuple #[fd,.int .i64 0])∧Below w0.heap.size w0 w'∧Found w0 b p [] fd w'
theorem walked_f(p n L:Nat)(T V:ByteArray)(hD:Doc T V n L)(hV:0<V.size)(c0:Int)(hc:((V[0]'hV).toNat:Int)=c0)(hk:c0=45∨48≤c0∧c0≤57)(sg:Nat)(hsg:sg<6)(nn hh:Int)(gp cp gs cs gl cl gi ci m:Nat)(mo:Int)(hmo:1≤mo)(w0:World)(hX:Ix w0 p T n)(hN:CmpQ w0 V nn hh)(hmg:gp≠m∧gs≠m∧gl≠m∧gi≠m)(hBm:w0.heap.size≤m)(w:World)(h0:Below w0.heap.size w0 w)(hM:Mf gp cp gs cs gl cl gi ci p 0 m w)(hC:Cdf gp gs gl gi (sg:Nat) nn w): Calls prog 87 #[.pointer (some ⟨m,0,none⟩),.int .i64 0,.agg #[.pointer (some ⟨p,0,none⟩),.int .i64 (-1)],.int .i64 mo] w fun e w'=>WalkF w0 p (sgB sg hh) e w':=by
 go_enter func87,ntmps87
 have mlt:=hM.lt
 have:m<w.heap.size+1:=oM
 have:m<w.heap.size+1+1:=oM
 have:m<w.heap.size+1+1+1:=oM
 have:m<w.heap.size+1+1+1+1:=oM
 have:m<w.heap.size+1+1+1+1+1:=oM
 have m0:=hM.c0
 have m1:=hM.c1
 have m2:=hM.c2
 have m3:=hM.c3
 have m4:=hM.c4
 have m5:=hM.c5
 have m6:=hM.c6
 have mz6:=hM.z6
 have gplt:=hC.p.lt
 have:gp<w.heap.size+1:=oM
 have:gp<w.heap.size+1+1:=oM
 have:gp<w.heap.size+1+1+1:=oM
 have:gp<w.heap.size+1+1+1+1:=oM
 have:gp<w.heap.size+1+1+1+1+1:=oM
 have dp0:=hC.p.c 0 _ rfl
 have dp1:=hC.p.c 1 _ rfl
 have dp2:=hC.p.c 2 _ rfl
 have dp3:=hC.p.c 3 _ rfl
 have dp4:=hC.p.c 4 _ rfl
 have dp5:=hC.p.c 5 _ rfl
 go_wp2_with fail
 have:Hid (Below w0.heap.size w0 w):=hid h0
 have w0le:=h0.size
 have l1:=hC.p.lt;have l2:=hC.s.lt;have l3:=hC.l.lt;have l5:=hC.i.lt;have l4:=hM.lt
 refine (run_f p n L T V hD hV c0 hc hk sg hsg nn hh gp cp gs cs gl cl gi ci m (w.heap.size+1+1) mo hmo w0 hX hN oM ⟨by omega,by omega,by omega,by omega⟩ hmg oM hBm _ tq4 ⟨by simp,by simp [go_sem],by simp [go_sem],by simp [go_sem],by simp [go_sem],by simp [go_sem],by simp [go_sem],by simp [go_sem],by simp [go_sem],by simp [go_sem],by simp [go_sem],by simp [go_sem]⟩ (hM.below tq4) (hC.below tq4)).mono ?_;rintro e w1 ⟨rfl,hb,st,fd,hW1,hF⟩
 have y5:=hW1.c5;have y7:=hW1.c7;have ylt:=hW1.lt
 have hfs:∃a n c,fd=.slice a n c:=by rcases hF with ⟨-,h⟩|⟨-,gf,cf,h,-⟩ <;> exact ⟨_,_,_,h⟩
 obtain ⟨fa,fn,fc,rfl⟩ :=hfs
 have HF:=hid hF
 clear hF hW1
 go_wp2_with fail
 go_region
 go_wp2_with fail
 try simp only [Exit.inBlock,Exit.then]
 refine bodyPost_ret (v:=.tuple #[.slice fa fn fc,.int .i64 0]) (by simp [results,results87,go_sem, *]) rfl ⟨_,rfl,hb.drew,HF.out.below qR.drew⟩
theorem run46_f(p n L:Nat)(T V:ByteArray)(hD:Doc T V n L)(hV:0<V.size)(c0:Int)(hc:((V[0]'hV).toNat:Int)=c0)(hk:c0=45∨48≤c0∧c0≤57)(sg:Nat)(hsg:sg<6)(nn hh:Int)(gp cp gs cs gl cl gi ci:Nat)(k0:2≤cp)(k1:1≤cs)(k2:1≤cl)(k3:2≤ci)(mo:Int)(hmo:1≤mo)(hmo2:mo≤5000)(w:World)(hX:Ix w p T n)(hN:CmpQ w V nn hh)(hC:Cdf gp gs gl gi (sg:Nat) nn w): Calls prog 46 #[.agg #[.slice (some ⟨gp,0,none⟩) 2 (cp:Nat),.slice (some ⟨gs,0,none⟩) 1 (cs:Nat),.slice (some ⟨gl,0,none⟩) 1 (cl:Nat),.slice (some ⟨gi,0,none⟩) 2 (ci:Nat)],.pointer (some ⟨p,0,none⟩),.int .i64 mo] w fun e w'=>WalkF w p (sgB sg hh) e w':=by
 have:¬mo<0:=oM
 have:¬5000<mo:=oM
 go_enter func46,ntmps46
 go_wp2_with fail
 refine (fsound gp cp gs cs gl cl gi ci k0 k1 k2 k3 (sg:Nat) nn oM oM _ (hC.below tq4)).mono ?_;rintro e w1 ⟨rfl,hb1⟩
 have s1:=hb1.size;try simp at s1
 have:w.heap.size<w1.heap.size:=oM
 have:w.heap.size<w1.heap.size+1:=oM
 have e1_0:=hb1.cl w.heap.size 0;simp [go_sem] at e1_0
 have e1_1:=hb1.cl w.heap.size 1;simp [go_sem] at e1_1
 have e1_2:=hb1.cl w.heap.size 2;simp [go_sem] at e1_2
 have e1_3:=hb1.cl w.heap.size 3;simp [go_sem] at e1_3
 have HB1:=bel_step (w:=w) tq4 hb1
 clear hb1
 go_wp2_with fail
 have l1:=hC.p.lt;have l2:=hC.s.lt;have l3:=hC.l.lt;have l4:=hC.i.lt
 go_region_law ((first|(go_simp;go_at_call 86;refine (root_any p _).mono ?_;rintro e w9 ⟨rfl,rfl⟩)))
 all_goals go_wp2_with fail
 all_goals (refine (walked_f p n L T V hD hV c0 hc hk sg hsg nn hh gp cp gs cs gl cl gi ci (w1.heap.size+1) mo hmo w hX hN ⟨by omega,by omega,by omega,by omega⟩ oM _ tq4 ⟨by simp,by simp [go_sem],by simp [go_sem],by simp [go_sem],by simp [go_sem],by simp [go_sem],by simp [go_sem],by simp [go_sem],by simp [go_sem]⟩ (hC.below tq4)).mono ?_;rintro e w2 ⟨fd,rfl,hb,hF⟩)
 all_goals (have hfs:∃a n c,fd=.slice a n c:=by rcases hF with ⟨-,h⟩|⟨-,gf,cf,h,-⟩ <;> exact ⟨_,_,_,h⟩)
 all_goals obtain ⟨fa,fn,fc,rfl⟩ :=hfs
 all_goals have HF:=hid hF
 all_goals clear hF
 all_goals go_wp2_with fail
 all_goals try simp only [Exit.inBlock,Exit.then]
 all_goals exact bodyPost_ret (v:=.tuple #[.slice fa fn fc,.int .i64 0]) (by simp [results,results46,go_sem]) rfl ⟨_,rfl,hb,HF.out⟩
end Nn
namespace Nn
open Go.RowKit
theorem kd_num{c:Int}(h:c=45∨48≤c∧c≤57): Kd c 2:=by unfold Kd;omega
theorem hits_t(p n L:Nat)(T V:ByteArray)(hD:Doc T V n L)(hV:0<V.size)(c0:Int)(hc:((V[0]'hV).toNat:Int)=c0)(hk:c0=45∨48≤c0∧c0≤57)(sg:Nat)(hsg:sg<6)(nn hh:Int)(C:ByteArray)(hCs:C.size≤100000)(s:Nat)(gp cp gs cs gl cl gi ci:Nat)(k0:2≤cp)(k1:1≤cs)(k2:1≤cl)(k3:2≤ci)(mo:Int)(hmo:1≤mo)(hmo2:mo≤5000)(hb:sgB sg hh=true)(w:World)(hX:Ix w p T n)(hN:CmpQ w V nn hh)(hS:Se w s p n)(hC:Cdf gp gs gl gi (sg:Nat) nn w)(hLf:LeafP w p C): Calls prog 28 #[.pointer (some ⟨s,0,none⟩),.int .i64 0,.pointer (some ⟨p,0,none⟩),.agg #[.slice (some ⟨gp,0,none⟩) 2 (cp:Nat),.slice (some ⟨gs,0,none⟩) 1 (cs:Nat),.slice (some ⟨gl,0,none⟩) 1 (cl:Nat),.slice (some ⟨gi,0,none⟩) 2 (ci:Nat)],.int .i64 mo] w fun e w'=>HitsP w L 2 C e w':=by
 have hkd:Kd c0 2:=kd_num hk
 obtain ⟨i0,hi0,hz0,hs0,hb0⟩ :=info_parts info125
 go_enter func28,ntmps28
 go_wp2_with fail
 refine (run46_f p n L T V hD hV c0 hc hk sg hsg nn hh gp cp gs cs gl cl gi ci k0 k1 k2 k3 mo hmo hmo2 _ (hX.below tq4) (hN.below tq4) (hC.below tq4)).mono ?_;rintro e w1 ⟨fd,rfl,hb1,hF⟩
 rw [hb] at hF
 obtain ⟨h,-⟩|⟨-,g,cc,rfl,hcf,hg,-⟩ :=hF
 ·exact absurd h (by decide)
 have s1:=hb1.size;try simp at s1
 have HB1:=bel_step (w:=w) tq4 hb1
 clear hb1
 have g0:=hcf.c0;have g1:=hcf.c1;have gl0:=hcf.lt
 have:g<w1.heap.size+1:=oM
 have:g<w1.heap.size+1+1:=oM
 have:g<w1.heap.size+1+1+1:=oM
 have:g<w1.heap.size+1+1+1+1:=oM
 have:g<w1.heap.size+1+1+1+1+1:=oM
 go_wp2_with fail
 refine (srecord_0 s p n _ (hS.below tq4)).mono ?_;rintro e w2 ⟨at_,rfl,hb2⟩
 have s2:=hb2.size;try simp at s2
 have g2:=(hb2.cl g 0);simp [go_sem,g0] at g2
 have g3:=(hb2.cl g 1);simp [go_sem,g1] at g3
 have HB2:=bel_step (w:=w) tq4 hb2
 clear hb2
 have:g<w2.heap.size:=oM
 have:g<w2.heap.size+1:=oM
 have:g<w2.heap.size+1+1:=oM
 have:g<w2.heap.size+1+1+1:=oM
 have:g<w2.heap.size+1+1+1+1:=oM
 have:g<w2.heap.size+1+1+1+1+1:=oM
 go_wp2_with (first|(refine wp_loop_unr 3 ?_;refine Unr.step ?_;intro U hU)|(refine Unr.step ?_;intro U hU))
 refine (span_1 p n L T V hD _ (hX.below tq4)).mono ?_;rintro e w3 ⟨rfl,hb3⟩
 have s3:=hb3.size;try simp at s3
 try (have:w2.heap.size<w3.heap.size:=oM)
 try (have:w2.heap.size<w3.heap.size+1:=oM)
 try (have:w2.heap.size<w3.heap.size+1+1:=oM)
 try (have:w2.heap.size+1<w3.heap.size:=oM)
 try (have:w2.heap.size+1<w3.heap.size+1:=oM)
 try (have:w2.heap.size+1<w3.heap.size+1+1:=oM)
 try (have e3_2_0_0:=hb3.cl w2.heap.size 0;simp [go_sem, *] at e3_2_0_0)
 try (have f3_2_0_0:=hb3.fz w2.heap.size 0;simp [go_sem, *] at f3_2_0_0)
 try (have e3_2_0_1:=hb3.cl w2.heap.size 1;simp [go_sem, *] at e3_2_0_1)
 try (have f3_2_0_1:=hb3.fz w2.heap.size 1;simp [go_sem, *] at f3_2_0_1)
 try (have e3_2_0_2:=hb3.cl w2.heap.size 2;simp [go_sem, *] at e3_2_0_2)
 try (have f3_2_0_2:=hb3.fz w2.heap.size 2;simp [go_sem, *] at f3_2_0_2)
 try (have e3_2_0_3:=hb3.cl w2.heap.size 3;simp [go_sem, *] at e3_2_0_3)
 try (have f3_2_0_3:=hb3.fz w2.heap.size 3;simp [go_sem, *] at f3_2_0_3)
 try (have e3_2_1_0:=hb3.cl (w2.heap.size+1) 0;simp [go_sem, *] at e3_2_1_0)
 try (have f3_2_1_0:=hb3.fz (w2.heap.size+1) 0;simp [go_sem, *] at f3_2_1_0)
 try (have e3_2_1_1:=hb3.cl (w2.heap.size+1) 1;simp [go_sem, *] at e3_2_1_1)
 try (have f3_2_1_1:=hb3.fz (w2.heap.size+1) 1;simp [go_sem, *] at f3_2_1_1)
 have HB3:=bel_step (w:=w) tq4 hb3
 clear hb3
 go_wp2_with fail
 have hL9:=hD.n1;have hL8:=hD.hL;have:wrap64 (L:Int)=L:=by unfold wrap64;omega
 clear hL9 hL8
 go_region
 go_wp2_with fail
 have:w2.heap.size+1<w3.heap.size:=oM
 have:w.heap.size≤w3.heap.size:=HB3.out.size
 have HX4:Hid (Hh w (w2.heap.size+1) w3.heap.size p L ((w3.alloc (.cells #[.int .i64 1,.int .i64 (L:Nat)] 66)).drew)):=hid ⟨tq4,by simp;omega,by simp,by simp [go_sem, *],by simp [go_sem, *],by simp [go_sem, *],by simp [go_sem, *]⟩
 generalize hWW:((w3.alloc (.cells #[.int .i64 1,.int .i64 (L:Nat)] 66)).drew)=W4 at HX4 ⊢
 clear hWW
 obtain ⟨-,ly4,lp4,ya4,yb4,pa4,pb4⟩ :=id HX4.out
 have hs1:∀(W:World) (hW:Hh w (w2.heap.size+1) w3.heap.size p L W),Calls prog 49 #[.agg #[.pointer (some ⟨p,0,none⟩),.int .i64 1]] W fun e w'=>e=.returned (.string ⟨#[36,91,48,93]⟩)∧Hh w (w2.heap.size+1) w3.heap.size p L w':=fun W hW=>(path_1 p n L T V hD W (hX.below hW.bel)).mono fun e w' ⟨a,b⟩ =>⟨a,hW.next b⟩
 have hs2:∀(W:World) (hW:Hh w (w2.heap.size+1) w3.heap.size p L W),Calls prog 50 #[.agg #[.pointer (some ⟨p,0,none⟩),.int .i64 1]] W fun e w'=>e=.returned (.int .i64 2)∧Hh w (w2.heap.size+1) w3.heap.size p L w':=fun W hW=>(Go.Proofs.YtjcioljdlfdnbaaGreatDoor.kind_n p n L T V hD hV c0 hc hk W (hX.below hW.bel)).mono fun e w' ⟨a,b⟩ =>⟨a,hW.next b⟩
 have hs3:∀(W:World) (hW:Hh w (w2.heap.size+1) w3.heap.size p L W),Calls prog 51 #[.agg #[.pointer (some ⟨p,0,none⟩),.int .i64 1]] W fun e w'=>e=.returned (.string C)∧Hh w (w2.heap.size+1) w3.heap.size p L w':=fun W hW=>(value_1 p n L T V hD c0 2 hV hc hkd oM C hCs W (hX.below hW.bel) (hLf.below hW.bel)).mono fun e w' ⟨a,b⟩ =>⟨a,hW.next b⟩
 go_region_held3 (fun w'=>w'.cell? ⟨w2.heap.size+1,0,none⟩=some (.pointer (some ⟨p,0,none⟩))∧w'.cell? ⟨w2.heap.size+1,1,none⟩=some (.int .i64 1)∧w'.cell? ⟨w3.heap.size,0,none⟩=some (.int .i64 1)∧w'.cell? ⟨w3.heap.size,1,none⟩=some (.int .i64 (L:Nat))∧Hid (Hh w (w2.heap.size+1) w3.heap.size p L w')) (first|exact hh_held aM|exact hh_held (hh_drew aM)|exact hh_held (hh_alloc aM _)) (first|(go_at_call 49;refine (hs1 _ (by repeat' (first|exact Hid.out aM|refine Hh.drew ?_))).mono ?_;rintro e w5 ⟨rfl,hb⟩;have HX5:=hid hb;clear hb)|(go_at_call 50;refine (hs2 _ (by repeat' (first|exact Hid.out aM|refine Hh.drew ?_))).mono ?_;rintro e w6 ⟨rfl,hb⟩;have HX6:=hid hb;clear hb)|(go_at_call 51;refine (hs3 _ (by repeat' (first|exact Hid.out aM|refine Hh.drew ?_))).mono ?_;rintro e w7 ⟨rfl,hb⟩;have HX7:=hid hb;clear hb)|((first|refine step_push rfl _ _ 27 rfl 132 i0 _ 5 56 underlying27 hi0 hz0 hs0 hb0 rfl oM (Acc.nil qR 132 5) rfl rfl (by first|rfl|simp) rfl rfl oM oM ?_|refine step_push_d rfl _ _ 27 rfl 132 i0 _ 5 56 underlying27 hi0 hz0 hs0 hb0 rfl oM (Acc.nil qR 132 5) rfl rfl (by first|rfl|simp) rfl rfl oM oM ?_|refine step_push_dd rfl _ _ 27 rfl 132 i0 _ 5 56 underlying27 hi0 hz0 hs0 hb0 rfl oM (Acc.nil qR 132 5) rfl rfl (by first|rfl|simp) rfl rfl oM oM ?_|refine step_push_d3 rfl _ _ 27 rfl 132 i0 _ 5 56 underlying27 hi0 hz0 hs0 hb0 rfl oM (Acc.nil qR 132 5) rfl rfl (by first|rfl|simp) rfl rfl oM oM ?_);intro gn cn w8 hA;have hgn:w.heap.size≤gn:=Nat.le_trans ((by repeat' (first|exact Hid.out aM|refine Hh.drew ?_)):Hh w (w2.heap.size+1) w3.heap.size p L _).bel.size hA.row.1;have HX8:=hid (((by repeat' (first|exact Hid.out aM|refine Hh.drew ?_)):Hh w (w2.heap.size+1) w3.heap.size p L _).next hA.bel);have HA:=hid hA;clear hA))
 have hr:=HA.out.row
 have HT:Hid (Hit L 2 C gn w8):=hid ⟨hr.2.1,hr.2.2 0 _ rfl,hr.2.2 1 _ rfl,hr.2.2 2 _ rfl,hr.2.2 3 _ rfl,hr.2.2 4 _ rfl⟩
 have HB8:Hid (Below w.heap.size w w8):=hid HX8.out.bel
 clear hr HA
 go_wp2_with (first|(refine wp_loop_unr 3 ?_;refine Unr.step ?_;intro U hU)|(refine Unr.step ?_;intro U hU))
 try simp only [Exit.inBlock,Exit.then]
 refine bodyPost_ret (v:=.tuple #[.slice (some ⟨gn,0,none⟩) 1 cn,.int .i64 0]) (by simp [results,results28,go_sem]) rfl ⟨gn,cn,rfl,HT.out,hgn,HB8.out⟩
theorem hits_n(p n L:Nat)(T V:ByteArray)(hD:Doc T V n L)(hV:0<V.size)(c0:Int)(hc:((V[0]'hV).toNat:Int)=c0)(hk:c0=45∨48≤c0∧c0≤57)(sg:Nat)(hsg:sg<6)(nn hh:Int)(s:Nat)(gp cp gs cs gl cl gi ci:Nat)(k0:2≤cp)(k1:1≤cs)(k2:1≤cl)(k3:2≤ci)(mo:Int)(hmo:1≤mo)(hmo2:mo≤5000)(hb:sgB sg hh=false)(w:World)(hX:Ix w p T n)(hN:CmpQ w V nn hh)(hS:Se w s p n)(hC:Cdf gp gs gl gi (sg:Nat) nn w): Calls prog 28 #[.pointer (some ⟨s,0,none⟩),.int .i64 0,.pointer (some ⟨p,0,none⟩),.agg #[.slice (some ⟨gp,0,none⟩) 2 (cp:Nat),.slice (some ⟨gs,0,none⟩) 1 (cs:Nat),.slice (some ⟨gl,0,none⟩) 1 (cl:Nat),.slice (some ⟨gi,0,none⟩) 2 (ci:Nat)],.int .i64 mo] w fun e w'=>e=.returned (.tuple #[.slice none 0 0,.int .i64 0])∧Below w.heap.size w w':=by
 go_enter func28,ntmps28
 go_wp2_with fail
 refine (run46_f p n L T V hD hV c0 hc hk sg hsg nn hh gp cp gs cs gl cl gi ci k0 k1 k2 k3 mo hmo hmo2 _ (hX.below tq4) (hN.below tq4) (hC.below tq4)).mono ?_;rintro e w1 ⟨fd,rfl,hb1,hF⟩
 rw [hb] at hF
 have hfd:fd=.slice none 0 0:=by
  rcases hF with ⟨-,h⟩|⟨h,-⟩
  ·exact h
  ·exact absurd h (by decide)
 subst hfd
 clear hF
 have HB1:=bel_step (w:=w) tq4 hb1
 clear hb1
 go_wp2_with fail
 refine (srecord_0 s p n _ (hS.below tq4)).mono ?_;rintro e w2 ⟨at_,rfl,hb2⟩
 have HB2:=bel_step (w:=w) tq4 hb2
 have s2:=HB2.out.size
 clear hb2
 go_wp2_with (first|(refine wp_loop_unr 3 ?_;refine Unr.step ?_;intro U hU)|(refine Unr.step ?_;intro U hU))
 try simp only [Exit.inBlock,Exit.then]
 refine bodyPost_ret (v:=.tuple #[.slice none 0 0,.int .i64 0]) (by simp [results,results28,go_sem]) rfl ⟨rfl,tq4⟩
theorem ask_t(p n L:Nat)(T V:ByteArray)(hD:Doc T V n L)(hV:0<V.size)(c0:Int)(hc:((V[0]'hV).toNat:Int)=c0)(hk:c0=45∨48≤c0∧c0≤57)(sg:Nat)(hsg:sg<6)(nn hh:Int)(C:ByteArray)(hCs:C.size≤100000)(s:Nat)(mo:Int)(hmo:1≤mo)(hmo2:mo≤5000)(hb:sgB sg hh=true)(q:ByteArray)(hQ:∀W:World,Calls prog 26 #[.string q] W fun e w'=>QueryF (sg:Nat) nn W e w')(w:World)(hX:Ix w p T n)(hN:CmpQ w V nn hh)(hS:Se w s p n)(hLf:LeafP w p C): Calls prog 14 #[.pointer (some ⟨s,0,none⟩),.int .i64 0,.string q,.int .i64 mo] w fun e w'=>AskP w L 2 C e w':=by
 go_enter func14,ntmps14
 go_wp2_with fail
 refine (hQ _).mono ?_;rintro e w1 ⟨gp,cp,gs,cs,gl,cl,gi,ci,rfl,hCd,⟨k0,k1,k2,k3⟩,hb1⟩
 have s1:=hb1.size;try simp at s1
 try (have:w.heap.size<w1.heap.size:=oM)
 try (have:w.heap.size<w1.heap.size+1:=oM)
 try (have:w.heap.size<w1.heap.size+1+1:=oM)
 try (have e1_0_0_0:=hb1.cl w.heap.size 0;simp [go_sem, *] at e1_0_0_0)
 try (have f1_0_0_0:=hb1.fz w.heap.size 0;simp [go_sem, *] at f1_0_0_0)
 try (have e1_0_0_1:=hb1.cl w.heap.size 1;simp [go_sem, *] at e1_0_0_1)
 try (have f1_0_0_1:=hb1.fz w.heap.size 1;simp [go_sem, *] at f1_0_0_1)
 have HB1:=bel_step (w:=w) tq4 hb1
 clear hb1
 go_wp2_with fail
 refine (sindex_0 s p n _ (hS.below tq4)).mono ?_;rintro e w2 ⟨rfl,hb2⟩
 have s2:=hb2.size;try simp at s2
 try (have:w.heap.size<w2.heap.size:=oM)
 try (have:w.heap.size<w2.heap.size+1:=oM)
 try (have:w.heap.size<w2.heap.size+1+1:=oM)
 try (have:w1.heap.size<w2.heap.size:=oM)
 try (have:w1.heap.size<w2.heap.size+1:=oM)
 try (have:w1.heap.size<w2.heap.size+1+1:=oM)
 try (have:w1.heap.size+1<w2.heap.size:=oM)
 try (have:w1.heap.size+1<w2.heap.size+1:=oM)
 try (have:w1.heap.size+1<w2.heap.size+1+1:=oM)
 try (have e2_0_0_0:=hb2.cl w.heap.size 0;simp [go_sem, *] at e2_0_0_0)
 try (have f2_0_0_0:=hb2.fz w.heap.size 0;simp [go_sem, *] at f2_0_0_0)
 try (have e2_0_0_1:=hb2.cl w.heap.size 1;simp [go_sem, *] at e2_0_0_1)
 try (have f2_0_0_1:=hb2.fz w.heap.size 1;simp [go_sem, *] at f2_0_0_1)
 try (have e2_1_0_0:=hb2.cl w1.heap.size 0;simp [go_sem, *] at e2_1_0_0)
 try (have f2_1_0_0:=hb2.fz w1.heap.size 0;simp [go_sem, *] at f2_1_0_0)
 try (have e2_1_0_1:=hb2.cl w1.heap.size 1;simp [go_sem, *] at e2_1_0_1)
 try (have f2_1_0_1:=hb2.fz w1.heap.size 1;simp [go_sem, *] at f2_1_0_1)
 try (have e2_1_0_2:=hb2.cl w1.heap.size 2;simp [go_sem, *] at e2_1_0_2)
 try (have f2_1_0_2:=hb2.fz w1.heap.size 2;simp [go_sem, *] at f2_1_0_2)
 try (have e2_1_0_3:=hb2.cl w1.heap.size 3;simp [go_sem, *] at e2_1_0_3)
 try (have f2_1_0_3:=hb2.fz w1.heap.size 3;simp [go_sem, *] at f2_1_0_3)
 try (have e2_1_1_0:=hb2.cl (w1.heap.size+1) 0;simp [go_sem, *] at e2_1_1_0)
 try (have f2_1_1_0:=hb2.fz (w1.heap.size+1) 0;simp [go_sem, *] at f2_1_1_0)
 try (have e2_1_1_1:=hb2.cl (w1.heap.size+1) 1;simp [go_sem, *] at e2_1_1_1)
 try (have f2_1_1_1:=hb2.fz (w1.heap.size+1) 1;simp [go_sem, *] at f2_1_1_1)
 have HB2:=bel_step (w:=w) tq4 hb2
 have HC2:Hid (Cdf gp gs gl gi (sg:Nat) nn w2):=hid ((hCd.below tq4).below hb2)
 clear hb2
 go_wp2_with fail
 refine (hits_t p n L T V hD hV c0 hc hk sg hsg nn hh C hCs s gp cp gs cs gl cl gi ci k0 k1 k2 k3 mo hmo hmo2 hb _ (hX.below tq4) (hN.below tq4) (hS.below tq4) (HC2.out.below tq4) (hLf.below tq4)).mono ?_;rintro e w3 ⟨g,cc,rfl,hH,hgg,hb3⟩
 have s3:=hb3.size;try simp at s3
 try (have:w.heap.size<w3.heap.size:=oM)
 try (have:w.heap.size<w3.heap.size+1:=oM)
 try (have:w.heap.size<w3.heap.size+1+1:=oM)
 try (have:w1.heap.size<w3.heap.size:=oM)
 try (have:w1.heap.size<w3.heap.size+1:=oM)
 try (have:w1.heap.size<w3.heap.size+1+1:=oM)
 try (have:w1.heap.size+1<w3.heap.size:=oM)
 try (have:w1.heap.size+1<w3.heap.size+1:=oM)
 try (have:w1.heap.size+1<w3.heap.size+1+1:=oM)
 try (have e3_0_0_0:=hb3.cl w.heap.size 0;simp [go_sem, *] at e3_0_0_0)
 try (have f3_0_0_0:=hb3.fz w.heap.size 0;simp [go_sem, *] at f3_0_0_0)
 try (have e3_0_0_1:=hb3.cl w.heap.size 1;simp [go_sem, *] at e3_0_0_1)
 try (have f3_0_0_1:=hb3.fz w.heap.size 1;simp [go_sem, *] at f3_0_0_1)
 try (have e3_1_0_0:=hb3.cl w1.heap.size 0;simp [go_sem, *] at e3_1_0_0)
 try (have f3_1_0_0:=hb3.fz w1.heap.size 0;simp [go_sem, *] at f3_1_0_0)
 try (have e3_1_0_1:=hb3.cl w1.heap.size 1;simp [go_sem, *] at e3_1_0_1)
 try (have f3_1_0_1:=hb3.fz w1.heap.size 1;simp [go_sem, *] at f3_1_0_1)
 try (have e3_1_0_2:=hb3.cl w1.heap.size 2;simp [go_sem, *] at e3_1_0_2)
 try (have f3_1_0_2:=hb3.fz w1.heap.size 2;simp [go_sem, *] at f3_1_0_2)
 try (have e3_1_0_3:=hb3.cl w1.heap.size 3;simp [go_sem, *] at e3_1_0_3)
 try (have f3_1_0_3:=hb3.fz w1.heap.size 3;simp [go_sem, *] at f3_1_0_3)
 try (have e3_1_1_0:=hb3.cl (w1.heap.size+1) 0;simp [go_sem, *] at e3_1_1_0)
 try (have f3_1_1_0:=hb3.fz (w1.heap.size+1) 0;simp [go_sem, *] at f3_1_1_0)
 try (have e3_1_1_1:=hb3.cl (w1.heap.size+1) 1;simp [go_sem, *] at e3_1_1_1)
 try (have f3_1_1_1:=hb3.fz (w1.heap.size+1) 1;simp [go_sem, *] at f3_1_1_1)
 have HB3:=bel_step (w:=w) tq4 hb3
 clear hb3
 try simp at hgg
 go_wp2_with fail
 try simp only [Exit.inBlock,Exit.then]
 refine bodyPost_ret (v:=.tuple #[.slice (some ⟨g,0,none⟩) 1 cc,.agg #[.int .i64 0,.int .i64 0]]) (by simp [results,results14,go_sem, *]) rfl ⟨g,cc,rfl,by repeat' (first|refine Hit.set ?_ (by show w.heap.size≠g;omega) _|exact hH),by omega,tq4⟩
theorem ask_n(p n L:Nat)(T V:ByteArray)(hD:Doc T V n L)(hV:0<V.size)(c0:Int)(hc:((V[0]'hV).toNat:Int)=c0)(hk:c0=45∨48≤c0∧c0≤57)(sg:Nat)(hsg:sg<6)(nn hh:Int)(s:Nat)(mo:Int)(hmo:1≤mo)(hmo2:mo≤5000)(hb:sgB sg hh=false)(q:ByteArray)(hQ:∀W:World,Calls prog 26 #[.string q] W fun e w'=>QueryF (sg:Nat) nn W e w')(w:World)(hX:Ix w p T n)(hN:CmpQ w V nn hh)(hS:Se w s p n): Calls prog 14 #[.pointer (some ⟨s,0,none⟩),.int .i64 0,.string q,.int .i64 mo] w fun e w'=>e=.returned (.tuple #[.slice none 0 0,.agg #[.int .i64 0,.int .i64 0]])∧Below w.heap.size w w':=by
 go_enter func14,ntmps14
 go_wp2_with fail
 refine (hQ _).mono ?_;rintro e w1 ⟨gp,cp,gs,cs,gl,cl,gi,ci,rfl,hCd,⟨k0,k1,k2,k3⟩,hb1⟩
 have s1:=hb1.size;try simp at s1
 try (have:w.heap.size<w1.heap.size:=oM)
 try (have:w.heap.size<w1.heap.size+1:=oM)
 try (have:w.heap.size<w1.heap.size+1+1:=oM)
 try (have e1_0_0_0:=hb1.cl w.heap.size 0;simp [go_sem, *] at e1_0_0_0)
 try (have f1_0_0_0:=hb1.fz w.heap.size 0;simp [go_sem, *] at f1_0_0_0)
 try (have e1_0_0_1:=hb1.cl w.heap.size 1;simp [go_sem, *] at e1_0_0_1)
 try (have f1_0_0_1:=hb1.fz w.heap.size 1;simp [go_sem, *] at f1_0_0_1)
 have HB1:=bel_step (w:=w) tq4 hb1
 clear hb1
 go_wp2_with fail
 refine (sindex_0 s p n _ (hS.below tq4)).mono ?_;rintro e w2 ⟨rfl,hb2⟩
 have s2:=hb2.size;try simp at s2
 try (have:w.heap.size<w2.heap.size:=oM)
 try (have:w.heap.size<w2.heap.size+1:=oM)
 try (have:w.heap.size<w2.heap.size+1+1:=oM)
 try (have:w1.heap.size<w2.heap.size:=oM)
 try (have:w1.heap.size<w2.heap.size+1:=oM)
 try (have:w1.heap.size<w2.heap.size+1+1:=oM)
 try (have:w1.heap.size+1<w2.heap.size:=oM)
 try (have:w1.heap.size+1<w2.heap.size+1:=oM)
 try (have:w1.heap.size+1<w2.heap.size+1+1:=oM)
 try (have e2_0_0_0:=hb2.cl w.heap.size 0;simp [go_sem, *] at e2_0_0_0)
 try (have f2_0_0_0:=hb2.fz w.heap.size 0;simp [go_sem, *] at f2_0_0_0)
 try (have e2_0_0_1:=hb2.cl w.heap.size 1;simp [go_sem, *] at e2_0_0_1)
 try (have f2_0_0_1:=hb2.fz w.heap.size 1;simp [go_sem, *] at f2_0_0_1)
 try (have e2_1_0_0:=hb2.cl w1.heap.size 0;simp [go_sem, *] at e2_1_0_0)
 try (have f2_1_0_0:=hb2.fz w1.heap.size 0;simp [go_sem, *] at f2_1_0_0)
 try (have e2_1_0_1:=hb2.cl w1.heap.size 1;simp [go_sem, *] at e2_1_0_1)
 try (have f2_1_0_1:=hb2.fz w1.heap.size 1;simp [go_sem, *] at f2_1_0_1)
 try (have e2_1_0_2:=hb2.cl w1.heap.size 2;simp [go_sem, *] at e2_1_0_2)
 try (have f2_1_0_2:=hb2.fz w1.heap.size 2;simp [go_sem, *] at f2_1_0_2)
 try (have e2_1_0_3:=hb2.cl w1.heap.size 3;simp [go_sem, *] at e2_1_0_3)
 try (have f2_1_0_3:=hb2.fz w1.heap.size 3;simp [go_sem, *] at f2_1_0_3)
 try (have e2_1_1_0:=hb2.cl (w1.heap.size+1) 0;simp [go_sem, *] at e2_1_1_0)
 try (have f2_1_1_0:=hb2.fz (w1.heap.size+1) 0;simp [go_sem, *] at f2_1_1_0)
 try (have e2_1_1_1:=hb2.cl (w1.heap.size+1) 1;simp [go_sem, *] at e2_1_1_1)
 try (have f2_1_1_1:=hb2.fz (w1.heap.size+1) 1;simp [go_sem, *] at f2_1_1_1)
 have HB2:=bel_step (w:=w) tq4 hb2
 have HC2:Hid (Cdf gp gs gl gi (sg:Nat) nn w2):=hid ((hCd.below tq4).below hb2)
 clear hb2
 go_wp2_with fail
 refine (hits_n p n L T V hD hV c0 hc hk sg hsg nn hh  s gp cp gs cs gl cl gi ci k0 k1 k2 k3 mo hmo hmo2 hb _ (hX.below tq4) (hN.below tq4) (hS.below tq4) (HC2.out.below tq4)).mono ?_;rintro e w3 ⟨rfl,hb3⟩
 have s3:=hb3.size;try simp at s3
 try (have:w.heap.size<w3.heap.size:=oM)
 try (have:w.heap.size<w3.heap.size+1:=oM)
 try (have:w.heap.size<w3.heap.size+1+1:=oM)
 try (have:w1.heap.size<w3.heap.size:=oM)
 try (have:w1.heap.size<w3.heap.size+1:=oM)
 try (have:w1.heap.size<w3.heap.size+1+1:=oM)
 try (have:w1.heap.size+1<w3.heap.size:=oM)
 try (have:w1.heap.size+1<w3.heap.size+1:=oM)
 try (have:w1.heap.size+1<w3.heap.size+1+1:=oM)
 try (have e3_0_0_0:=hb3.cl w.heap.size 0;simp [go_sem, *] at e3_0_0_0)
 try (have f3_0_0_0:=hb3.fz w.heap.size 0;simp [go_sem, *] at f3_0_0_0)
 try (have e3_0_0_1:=hb3.cl w.heap.size 1;simp [go_sem, *] at e3_0_0_1)
 try (have f3_0_0_1:=hb3.fz w.heap.size 1;simp [go_sem, *] at f3_0_0_1)
 try (have e3_1_0_0:=hb3.cl w1.heap.size 0;simp [go_sem, *] at e3_1_0_0)
 try (have f3_1_0_0:=hb3.fz w1.heap.size 0;simp [go_sem, *] at f3_1_0_0)
 try (have e3_1_0_1:=hb3.cl w1.heap.size 1;simp [go_sem, *] at e3_1_0_1)
 try (have f3_1_0_1:=hb3.fz w1.heap.size 1;simp [go_sem, *] at f3_1_0_1)
 try (have e3_1_0_2:=hb3.cl w1.heap.size 2;simp [go_sem, *] at e3_1_0_2)
 try (have f3_1_0_2:=hb3.fz w1.heap.size 2;simp [go_sem, *] at f3_1_0_2)
 try (have e3_1_0_3:=hb3.cl w1.heap.size 3;simp [go_sem, *] at e3_1_0_3)
 try (have f3_1_0_3:=hb3.fz w1.heap.size 3;simp [go_sem, *] at f3_1_0_3)
 try (have e3_1_1_0:=hb3.cl (w1.heap.size+1) 0;simp [go_sem, *] at e3_1_1_0)
 try (have f3_1_1_0:=hb3.fz (w1.heap.size+1) 0;simp [go_sem, *] at f3_1_1_0)
 try (have e3_1_1_1:=hb3.cl (w1.heap.size+1) 1;simp [go_sem, *] at e3_1_1_1)
 try (have f3_1_1_1:=hb3.fz (w1.heap.size+1) 1;simp [go_sem, *] at f3_1_1_1)
 have HB3:=bel_step (w:=w) tq4 hb3
 clear hb3
 go_wp2_with fail
 try simp only [Exit.inBlock,Exit.then]
 refine bodyPost_ret (v:=.tuple #[.slice none 0 0,.agg #[.int .i64 0,.int .i64 0]]) (by simp [results,results14,go_sem, *]) rfl ⟨rfl,tq4⟩
theorem leafP_n(n L:Nat)(T V:ByteArray)(hD:Doc T V n L)(hV:0<V.size)(c:Int)(hc:((V[0]'hV).toNat:Int)=c)(hk:c=45∨48≤c∧c≤57)(p:Nat)(W:World)(h:Ix W p T n): LeafP W p V:=fun W' hW=>leaf_n p n L T V hD hV c hc hk W' (h.below hW)
theorem lask_t(n L:Nat)(T V:ByteArray)(hD:Doc T V n L)(hV:0<V.size)(hVs:V.size≤100000)(c0:Int)(hc:((V[0]'hV).toNat:Int)=c0)(hk:c0=45∨48≤c0∧c0≤57)(hT:ScT T n L c0)(h10:T.data.toList.contains 10=false)(hZ:Ms T 0 false [((0:Int),(91:Int)),((L:Int),(93:Int))])(sg:Nat)(hsg:sg<6)(nn hh:Int)(q:ByteArray)(hQ:∀W:World,Calls prog 26 #[.string q] W fun e w'=>QueryF (sg:Nat) nn W e w')(hb:sgB sg hh=true)(w:World)(hTb:Tab w)(hN:CmpQ w V nn hh): Calls prog 7 #[.string T,.string q] w fun e w'=>∃g c,e=.returned (.tuple #[.slice (some ⟨g,0,none⟩) 1 c,.bool true])∧Below w.heap.size w w':=by
 have HQ:=hid hQ
 clear hQ
 go_enter func7,ntmps7
 go_wp2_with fail
 refine (build_1 T n L c0 hT h10 4096 oM oM hZ _ (hTb.below tq4)).mono ?_;rintro e w1 ⟨s,p,rfl,hS,hX,hb1⟩
 have HB1:=bel_step (w:=w) tq4 hb1
 have HS1:=hid hS
 have HX1:=hid hX
 clear hb1 hS hX
 go_wp2_with fail
 refine (ask_t p n L T V hD hV c0 hc hk sg hsg nn hh V hVs s 5000 oM oM hb q HQ.out _ HX1.out (hN.below (HB1.out)) HS1.out (leafP_n n L T V hD hV c0 hc hk p _ HX1.out)).mono ?_;rintro e w2 ⟨g,cc,rfl,hH,hg,hb2⟩
 have HB2:=bel_step (w:=w) tq4 hb2
 have s2:=HB2.out.size
 clear hb2
 go_wp2_with fail
 go_region
 all_goals go_wp2_with fail
 all_goals go_ret2
 all_goals exact ⟨g,cc,rfl,tq4⟩
theorem lask_n(n L:Nat)(T V:ByteArray)(hD:Doc T V n L)(hV:0<V.size)(hVs:V.size≤100000)(c0:Int)(hc:((V[0]'hV).toNat:Int)=c0)(hk:c0=45∨48≤c0∧c0≤57)(hT:ScT T n L c0)(h10:T.data.toList.contains 10=false)(hZ:Ms T 0 false [((0:Int),(91:Int)),((L:Int),(93:Int))])(sg:Nat)(hsg:sg<6)(nn hh:Int)(q:ByteArray)(hQ:∀W:World,Calls prog 26 #[.string q] W fun e w'=>QueryF (sg:Nat) nn W e w')(hb:sgB sg hh=false)(w:World)(hTb:Tab w)(hN:CmpQ w V nn hh): Calls prog 7 #[.string T,.string q] w fun e w'=>e=.returned (.tuple #[.slice none 0 0,.bool true])∧Below w.heap.size w w':=by
 have HQ:=hid hQ
 clear hQ
 go_enter func7,ntmps7
 go_wp2_with fail
 refine (build_1 T n L c0 hT h10 4096 oM oM hZ _ (hTb.below tq4)).mono ?_;rintro e w1 ⟨s,p,rfl,hS,hX,hb1⟩
 have HB1:=bel_step (w:=w) tq4 hb1
 have HS1:=hid hS
 have HX1:=hid hX
 clear hb1 hS hX
 go_wp2_with fail
 refine (ask_n p n L T V hD hV c0 hc hk sg hsg nn hh s 5000 oM oM hb q HQ.out _ HX1.out (hN.below (HB1.out)) HS1.out).mono ?_;rintro e w2 ⟨rfl,hb2⟩
 have HB2:=bel_step (w:=w) tq4 hb2
 have s2:=HB2.out.size
 clear hb2
 go_wp2_with fail
 go_region
 all_goals go_wp2_with fail
 all_goals go_ret2
 all_goals exact ⟨rfl,tq4⟩
end Nn
namespace Nn
open Go.RowKit
open Np
theorem at_of(s:ByteArray)(k:Nat)(hk:k<s.size)(c:UInt8)(h:s.data.toList[k]?=some c): ((s[k]'hk).toNat:Int)=((c.toNat:Nat):Int):=by
 rw [List.getElem?_eq_getElem (by rw [←Lib.size_eq];exact hk)] at h
 injection h with h
 rw [←h];rfl
theorem last_snoc(l:List UInt8)(c:UInt8): (l++[c]).getLast?=some c:=by simp
theorem eq_bytes{A B:ByteArray}(h:A.data.toList=B.data.toList): A=B:=by
 cases A;cases B;simp at h;exact congrArg _ (by cases h;rfl)
abbrev brk (q:ByteArray):ByteArray:=(⟨#[91]⟩ ++q)++⟨#[93]⟩
theorem brk_list(q:ByteArray): (brk q).data.toList=91::(q.data.toList++[93]):=by
 simp [brk]
theorem brk_size(q:ByteArray): (brk q).size=q.size+2:=by
 rw [Lib.size_eq,brk_list,Lib.size_eq];simp
def NuB (b:UInt8):Prop:=(45≤(b.toNat:Int)∧(b.toNat:Int)≤57)∨(b.toNat:Int)=43∨(b.toNat:Int)=69∨(b.toNat:Int)=101
theorem nb_dg{b:UInt8}(h:Dg b): NuB b:=by unfold Dg at h;unfold NuB;omega
theorem nb_parts{l:List UInt8}{mi:Bool}{wh fr:List UInt8}{em:Bool}{ds:List UInt8}(h:Parts l mi wh fr em ds): ∀b∈l,NuB b:=by
 obtain ⟨fp,xp,hl,hf,hx⟩ :=h.ex
 have h1:∀b∈fp,NuB b:=by
  rcases hf with ⟨_,rfl⟩|⟨_,rfl⟩
  ·simp
  ·intro b hb
   rcases List.mem_cons.1 hb with rfl|hb
   ·unfold NuB;decide
   ·exact nb_dg (h.fd b hb)
 have h2:∀b∈xp,NuB b:=by
  rcases hx with ⟨_,_,rfl⟩|⟨_,e,c,rfl,he,hc⟩
  ·simp
  ·intro b hb
   rcases List.mem_cons.1 hb with rfl|hb
   ·rcases he with rfl|rfl <;> (unfold NuB;decide)
   ·rcases List.mem_append.1 hb with hb|hb
    ·rcases hc with ⟨_,rfl⟩|⟨_,rfl⟩|⟨_,rfl⟩ <;> simp at hb <;> subst hb <;> (unfold NuB;decide)
    ·exact nb_dg (h.dd b hb)
 intro b hb
 rw [hl] at hb
 rcases List.mem_append.1 hb with hb|hb
 ·cases mi <;> simp at hb
  subst hb;unfold NuB;decide
 ·rcases List.mem_append.1 hb with hb|hb
  ·exact nb_dg (h.wd b hb)
  ·rcases List.mem_append.1 hb with hb|hb
   ·exact h1 b hb
   ·exact h2 b hb
theorem nb_blk{b:UInt8}(h:NuB b): blk.data.toList.contains b=false:=by
 unfold NuB at h
 exact blk_no b _ rfl oM
theorem head_parts{l:List UInt8}{mi:Bool}{wh fr:List UInt8}{em:Bool}{ds:List UInt8}(h:Parts l mi wh fr em ds): ∃b r,l=b::r∧((b.toNat:Int)=45∨48≤(b.toNat:Int)∧(b.toNat:Int)≤57):=by
 obtain ⟨fp,xp,hl,-,-⟩ :=h.ex
 obtain ⟨b0,l0,hwh⟩:∃b l,wh=b::l:=by cases hw:wh with|nil=>exact absurd hw h.w0|cons a l=>exact ⟨a,l,rfl⟩
 have hd:=h.wd b0 (by rw [hwh];simp)
 unfold Dg at hd
 cases mi with
 | true=>exact ⟨45,_,by rw [hl];rfl,.inl (by decide)⟩
 | false=>exact ⟨b0,l0++(fp++xp),by rw [hl,hwh];rfl,.inr oM⟩
theorem ms_num(T:ByteArray)(r:List UInt8)(ys:List (Int × Int)): ∀(l:List UInt8) (k:Nat),(∀b∈l,NuB b)→T.data.toList.drop k=l++r→Ms T (k+l.length) false ys→Ms T k false ys:=by
 intro l
 induction l with
 | nil=>intro k _ _ h;exact h
 | cons b l ih=>
  intro k hb hd hm
  obtain ⟨hk,hb0,hd2⟩ :=drop_at T k b (l++r) hd
  refine .skipF k ys hk (by rw [hb0];exact hb b sM) (ih (k+1) (fun c hc=>hb c (by simp [hc])) hd2 ?_)
  have:k+(b::l).length=k+1+l.length:=by simp;omega
  rw [←this];exact hm
theorem leaf_num(T:ByteArray)(hs:T.size≤100000)(k:Nat)(s r:List UInt8)(mi:Bool)(wh fr:List UInt8)(em:Bool)(ds:List UInt8)(hl:T.data.toList.drop k=s++93::r)(hp:Parts s mi wh fr em ds)(sl:Value)(dd m:Int)(x:Nat)(w:World)(h:Sc T k sl dd m x w): Calls prog 132 #[.pointer (some ⟨x,0,none⟩)] w fun e w'=>Sto w (.bool true) T (k+s.length) sl dd m x e w':=by
 obtain ⟨b,r2,hb,hc⟩ :=head_parts hp
 obtain ⟨hk,hkb⟩ :=byt (b:=b) (l:=r2++93::r) (by rw [hl,hb];rfl)
 obtain ⟨c,hcc⟩:∃c:Int,(b.toNat:Int)=c:=⟨_,rfl⟩
 rw [hcc] at hkb hc
 have:(c==34)=false:=by rw [beq_eq_false_iff_ne];omega
 have:(c==110)=false:=by rw [beq_eq_false_iff_ne];omega
 have:(c==116)=false:=by rw [beq_eq_false_iff_ne];omega
 have:(c==102)=false:=by rw [beq_eq_false_iff_ne];omega
 have H:Hid (SN T k sl dd m x w w):=hid ⟨h,Oth.refl _ _ _⟩
 have hN:=fun W (H:Hid (SN T k sl dd m x w W))=>num_any T hs k s r mi wh fr em ds hl hp sl dd m x W H.out.1
 clear hb hc hcc hl hp h
 go_enter func132,ntmps132
 go_wp2_with fail
 refine (sn_next hs hk c hkb H).mono ?_;rintro e w1 ⟨rfl,H1⟩
 go_wp2_with fail
 refine (hN _ H1).mono ?_;rintro e w2 ⟨rfl,S2,P2⟩
 have HP:=hid (And.intro S2 (H1.out.2.trans P2))
 clear S2 P2
 go_wp2_with fail
 go_ret
 exact ⟨rfl,HP.out.1,HP.out.2⟩
structure NumT (q:ByteArray) (c:Int):Prop where
 sc:ScT (brk q) (q.size+2) (q.size+1) c
 doc:Doc (brk q) q (q.size+2) (q.size+1)
 ms:Ms (brk q) 0 false [((0:Int),(91:Int)),(((q.size+1:Nat):Int),(93:Int))]
 nl:(brk q).data.toList.contains 10=false
 pos:0<q.size
 mark:((q[0]'pos).toNat:Int)=c
 hc:c=45∨48≤c∧c≤57
theorem num_of(q:ByteArray){mi:Bool}{wh fr:List UInt8}{em:Bool}{ds:List UInt8}(hp:Parts q.data.toList mi wh fr em ds)(hs:q.size<1000): ∃c,NumT q c:=by
 have hnb:=nb_parts hp
 obtain ⟨b,x,hx,hc⟩ :=head_parts hp
 have hq:q.size=x.length+1:=by rw [Lib.size_eq,hx];simp
 have hl:=brk_list q
 have hsz:=brk_size q
 have hpos:0<q.size:=oM
 have hd1:(brk q).data.toList.drop 1=q.data.toList++93::[]:=by rw [hl];simp
 have k0:0<(brk q).size:=oM
 have k1:1<(brk q).size:=oM
 have kL:q.size+1<(brk q).size:=oM
 have a0:=at_of (brk q) 0 k0 91 (by rw [hl];rfl)
 have a1:=at_of (brk q) 1 k1 b (by rw [hl,hx];rfl)
 have aL:=at_of (brk q) (q.size+1) kL 93 (by rw [hl,List.getElem?_cons_succ,List.getElem?_append_right (by rw [Lib.size_eq];omega),Lib.size_eq];simp)
 have hlast:∀b,q.data.toList.getLast?=some b→NuB b:=fun b hb=>hnb b (List.mem_of_getLast? hb)
 refine ⟨(b.toNat:Nat),⟨hsz,rfl,by omega,by omega,k0,k1,kL,a0,a1,aL,by omega,by omega,?_⟩,
  ⟨hsz,rfl,by omega,by omega,Bare.of _ ?_ ?_,Bare.of _ ?_ ?_,?_,rfl,fun _=>a0⟩,?_,?_,hpos,?_,hc⟩
 ·intro sl d m y W hS
  have:=leaf_num (brk q) oM 1 q.data.toList [] mi wh fr em ds hd1 hp sl d m y W hS
  rw [show 1+q.data.toList.length=q.size+1 by rw [Lib.size_eq];omega] at this
  exact this
 ·intro b hb;rw [hl] at hb;first|(simp at hb;subst hb;decide)|(cases hb;decide)
 ·intro b hb;rw [hl,show (91:UInt8)::(q.data.toList++[93])=(91::q.data.toList)++[93] from rfl,last_snoc] at hb;injection hb with hb;subst hb;decide
 ·intro b' hb';exact nb_blk (hnb b' (List.mem_of_head? hb'))
 ·intro b' hb';exact nb_blk (hlast b' hb')
 ·refine eq_bytes ?_
  rw [Lib.extract_data,hl,Lib.size_eq]
  simp
 ·refine .yldF 0 _ 91 k0 a0 (.inl rfl) (ms_num _ [93] _ q.data.toList 1 hnb hd1 ?_)
  rw [show 1+q.data.toList.length=q.size+1 by rw [Lib.size_eq];omega]
  exact .yldF (q.size+1) _ 93 kL aL (.inr rfl) (.nil _ _ oM)
 ·rw [hl,List.contains_eq_mem]
  simp only [decide_eq_false_iff_not,List.mem_cons,List.mem_append,List.mem_singleton,not_or]
  refine ⟨by decide,fun h=>?_,by decide,by simp⟩
  have:=hnb 10 h
  exact absurd this (by unfold NuB;decide)
 ·exact at_of q 0 hpos b (by rw [hx];rfl)
end Nn
end Go.Proofs.YtjcioljdlfdnbaaGreatDoor
