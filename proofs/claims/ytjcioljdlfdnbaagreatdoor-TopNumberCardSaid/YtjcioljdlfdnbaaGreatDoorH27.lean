/- Part 27: lemmas for TopNumber; no conditions. -/
import Derived.Test.YtjcioljdlfdnbaaGreatDoorH26
set_option linter.unusedVariables false
set_option linter.unusedSimpArgs false
set_option maxRecDepth 100000
set_option maxHeartbeats 2000000
open Go.Proofs.Tryz
namespace Go.Proofs.YtjcioljdlfdnbaaGreatDoor
namespace Nn
open Go.RowKit
structure RF (w0:World) (a m p gp cp gs cs gl cl gi ci:Nat) (sg:Nat) (nn:Int) (g:Nat) (mo:Int) (st fd:Value) (sl:Int) (nx:Value) (k:Int) (W:World):Prop where
 hW:Wk m st fd mo a W
 hM:Mf gp cp gs cs gl cl gi ci p k m W
 hC:Cdf gp gs gl gi (sg:Nat) nn W
 hF:Fr p sl nx g W
 hb:Below w0.heap.size w0 W
 Ba:w0.heap.size≤a
 Bm:w0.heap.size≤m
 Bg:w0.heap.size≤g
 am:a≠m
 ag:a≠g
 mg:m≠g
 agp:gp≠a
 mgp:gp≠m
 ggp:gp≠g
 ags:gs≠a
 mgs:gs≠m
 ggs:gs≠g
 agl:gl≠a
 mgl:gl≠m
 ggl:gl≠g
 agi:gi≠a
 mgi:gi≠m
 ggi:gi≠g
theorem RF.below{w0 W:World}{a m p gp cp gs cs gl cl gi ci:Nat}{sg:Nat}{nn:Int}{g:Nat}{mo:Int}{st fd:Value}{sl:Int}{nx:Value}{k:Int}{W':World}(h:RF w0 a m p gp cp gs cs gl cl gi ci sg nn g mo st fd sl nx k W)(hb:Below W.heap.size W W'): RF w0 a m p gp cp gs cs gl cl gi ci sg nn g mo st fd sl nx k W':=⟨h.hW.below hb,h.hM.below hb,h.hC.below hb,h.hF.below hb,h.hb.trans (hb.mono h.hb.size),h.Ba,h.Bm,h.Bg,h.am,h.ag,h.mg,h.agp,h.mgp,h.ggp,h.ags,h.mgs,h.ggs,h.agl,h.mgl,h.ggl,h.agi,h.mgi,h.ggi⟩
theorem RF.setS{w0 W:World}{a m p gp cp gs cs gl cl gi ci:Nat}{sg:Nat}{nn:Int}{g:Nat}{mo:Int}{st fd:Value}{sl:Int}{nx:Value}{k:Int}(h:RF w0 a m p gp cp gs cs gl cl gi ci sg nn g mo st fd sl nx k W)(st':Value): RF w0 a m p gp cp gs cs gl cl gi ci sg nn g mo st' fd sl nx k (W.setCell ⟨a,4,none⟩ (st')):=⟨h.hW.setS st',h.hM.set (a:=⟨a,4,none⟩) h.am _,h.hC.setO (a:=⟨a,4,none⟩) (Ne.symm h.agp) (Ne.symm h.ags) (Ne.symm h.agl) (Ne.symm h.agi) _,h.hF.set (a:=⟨a,4,none⟩) h.ag _,h.hb.setCell (p:=⟨a,4,none⟩) h.Ba _,h.Ba,h.Bm,h.Bg,h.am,h.ag,h.mg,h.agp,h.mgp,h.ggp,h.ags,h.mgs,h.ggs,h.agl,h.mgl,h.ggl,h.agi,h.mgi,h.ggi⟩
theorem RF.setF{w0 W:World}{a m p gp cp gs cs gl cl gi ci:Nat}{sg:Nat}{nn:Int}{g:Nat}{mo:Int}{st fd:Value}{sl:Int}{nx:Value}{k:Int}(h:RF w0 a m p gp cp gs cs gl cl gi ci sg nn g mo st fd sl nx k W)(fd':Value): RF w0 a m p gp cp gs cs gl cl gi ci sg nn g mo st fd' sl nx k (W.setCell ⟨a,5,none⟩ (fd')):=⟨h.hW.setF fd',h.hM.set (a:=⟨a,5,none⟩) h.am _,h.hC.setO (a:=⟨a,5,none⟩) (Ne.symm h.agp) (Ne.symm h.ags) (Ne.symm h.agl) (Ne.symm h.agi) _,h.hF.set (a:=⟨a,5,none⟩) h.ag _,h.hb.setCell (p:=⟨a,5,none⟩) h.Ba _,h.Ba,h.Bm,h.Bg,h.am,h.ag,h.mg,h.agp,h.mgp,h.ggp,h.ags,h.mgs,h.ggs,h.agl,h.mgl,h.ggl,h.agi,h.mgi,h.ggi⟩
theorem RF.setL{w0 W:World}{a m p gp cp gs cs gl cl gi ci:Nat}{sg:Nat}{nn:Int}{g:Nat}{mo:Int}{st fd:Value}{sl:Int}{nx:Value}{k:Int}(h:RF w0 a m p gp cp gs cs gl cl gi ci sg nn g mo st fd sl nx k W)(sl':Int): RF w0 a m p gp cp gs cs gl cl gi ci sg nn g mo st fd sl' nx k (W.setCell ⟨g,1,none⟩ (.int .i64 sl')):=⟨h.hW.set (a:=⟨g,1,none⟩) (Ne.symm h.ag) _,h.hM.set (a:=⟨g,1,none⟩) (Ne.symm h.mg) _,h.hC.setO (a:=⟨g,1,none⟩) (Ne.symm h.ggp) (Ne.symm h.ggs) (Ne.symm h.ggl) (Ne.symm h.ggi) _,h.hF.setL sl',h.hb.setCell (p:=⟨g,1,none⟩) h.Bg _,h.Ba,h.Bm,h.Bg,h.am,h.ag,h.mg,h.agp,h.mgp,h.ggp,h.ags,h.mgs,h.ggs,h.agl,h.mgl,h.ggl,h.agi,h.mgi,h.ggi⟩
theorem RF.setN{w0 W:World}{a m p gp cp gs cs gl cl gi ci:Nat}{sg:Nat}{nn:Int}{g:Nat}{mo:Int}{st fd:Value}{sl:Int}{nx:Value}{k:Int}(h:RF w0 a m p gp cp gs cs gl cl gi ci sg nn g mo st fd sl nx k W)(nx':Value): RF w0 a m p gp cp gs cs gl cl gi ci sg nn g mo st fd sl nx' k (W.setCell ⟨g,6,none⟩ (nx')):=⟨h.hW.set (a:=⟨g,6,none⟩) (Ne.symm h.ag) _,h.hM.set (a:=⟨g,6,none⟩) (Ne.symm h.mg) _,h.hC.setO (a:=⟨g,6,none⟩) (Ne.symm h.ggp) (Ne.symm h.ggs) (Ne.symm h.ggl) (Ne.symm h.ggi) _,h.hF.setN nx',h.hb.setCell (p:=⟨g,6,none⟩) h.Bg _,h.Ba,h.Bm,h.Bg,h.am,h.ag,h.mg,h.agp,h.mgp,h.ggp,h.ags,h.mgs,h.ggs,h.agl,h.mgl,h.ggl,h.agi,h.mgi,h.ggi⟩
theorem Wk.kx{m:Nat}{st fd:Value}{mo:Int}{g:Nat}{S:List Nat}{W W':World}(h:Wk m st fd mo g W)(k:Kx S W W')(hn:g ∉ S): Wk m st fd mo g W':=h.of k.size (fun c=>k.cell (p:=⟨g,c,none⟩) h.lt hn) (fun c=>k.frozen (p:=⟨g,c,none⟩) h.lt hn)
theorem Fr.kx{p:Nat}{sl:Int}{nx:Value}{g:Nat}{S:List Nat}{W W':World}(h:Fr p sl nx g W)(k:Kx S W W')(hn:g ∉ S): Fr p sl nx g W':=h.of k.size (fun c=>k.cell (p:=⟨g,c,none⟩) h.lt hn) (fun c=>k.frozen (p:=⟨g,c,none⟩) h.lt hn)
theorem Cdf.kx{gp gs gl gi:Nat}{sg n:Int}{S:List Nat}{W W':World}(h:Cdf gp gs gl gi sg n W)(k:Kx S W W')(h1:gp ∉ S)(h2:gs ∉ S)(h3:gl ∉ S)(h4:gi ∉ S): Cdf gp gs gl gi sg n W':=⟨h.p.kx k h1,h.s.kx k h2,h.l.kx k h3,h.i.kx k h4⟩
theorem Mf.kx{gp cp gs cs gl cl gi ci p:Nat}{k:Int}{g:Nat}{S:List Nat}{W W':World}(h:Mf gp cp gs cs gl cl gi ci p k g W)(kx:Kx S W W')(hn:g ∉ S): Mf gp cp gs cs gl cl gi ci p k g W':=h.of kx.size (fun c=>kx.cell (p:=⟨g,c,none⟩) h.lt hn) (fun c=>kx.frozen (p:=⟨g,c,none⟩) h.lt hn)
theorem Ix.kx{S:List Nat}{w0 w w':World}{p n:Nat}{T:ByteArray}(h:Ix w0 p T n)(h0:Below w0.heap.size w0 w)(k:Kx S w w')(hS:∀j∈S,w0.heap.size≤j): Ix w' p T n:=h.below (k.bel h0 hS)
theorem RF.kx{w0 W:World}{a m p gp cp gs cs gl cl gi ci:Nat}{sg:Nat}{nn:Int}{g:Nat}{mo:Int}{st fd:Value}{sl:Int}{nx:Value}{k:Int}{S:List Nat}{W':World}{k':Int}(h:RF w0 a m p gp cp gs cs gl cl gi ci sg nn g mo st fd sl nx k W)(hk:Kx S W W')(hM:Mf gp cp gs cs gl cl gi ci p k' m W')(hS:∀j∈S,w0.heap.size≤j∧j≠a∧j≠g∧j≠gp∧j≠gs∧j≠gl∧j≠gi): RF w0 a m p gp cp gs cs gl cl gi ci sg nn g mo st fd sl nx k' W':=by
 have n1:a ∉ S:=fun hm=>(hS a hm).2.1 rfl
 have n2:g ∉ S:=fun hm=>(hS g hm).2.2.1 rfl
 have n3:gp ∉ S:=fun hm=>(hS gp hm).2.2.2.1 rfl
 have n4:gs ∉ S:=fun hm=>(hS gs hm).2.2.2.2.1 rfl
 have n5:gl ∉ S:=fun hm=>(hS gl hm).2.2.2.2.2.1 rfl
 have n6:gi ∉ S:=fun hm=>(hS gi hm).2.2.2.2.2.2 rfl
 exact ⟨Wk.kx h.hW hk n1,hM,h.hC.kx hk n3 n4 n5 n6,Fr.kx h.hF hk n2,hk.bel h.hb (fun j hj=>(hS j hj).1),h.Ba,h.Bm,h.Bg,h.am,h.ag,h.mg,h.agp,h.mgp,h.ggp,h.ags,h.mgs,h.ggs,h.agl,h.mgl,h.ggl,h.agi,h.mgi,h.ggi⟩
structure Fw (w0:World) (a m p gp cp gs cs gl cl gi ci:Nat) (sg:Nat) (nn:Int) (bE bW bA bB bC bO:Nat) (st fd:Value) (mo k:Int) (W:World):Prop where
 bel:Below w0.heap.size w0 W
 wk:Wk m st fd mo a W
 mf:Mf gp cp gs cs gl cl gi ci p k m W
 cd:Cdf gp gs gl gi (sg:Nat) nn W
 e:Bk bE [.func (.func 328) #[] #[.pointer (some ⟨bB,0,none⟩),.pointer (some ⟨bC,0,none⟩),.pointer (some ⟨bO,0,none⟩)]] W
 w:Bk bW [.pointer (some ⟨a,0,none⟩)] W
 a:Bk bA [.int .i64 0] W
theorem Fw.below{w0:World}{a m p gp cp gs cs gl cl gi ci:Nat}{sg:Nat}{nn:Int}{bE bW bA bB bC bO:Nat}{st fd:Value}{mo k:Int}{W W':World}(h:Fw w0 a m p gp cp gs cs gl cl gi ci sg nn bE bW bA bB bC bO st fd mo k W)(hb:Below W.heap.size W W'): Fw w0 a m p gp cp gs cs gl cl gi ci sg nn bE bW bA bB bC bO st fd mo k W':=⟨h.bel.trans (hb.mono h.bel.size),h.wk.below hb,h.mf.below hb,h.cd.below hb,h.e.below hb,h.w.below hb,h.a.below hb⟩
theorem Fw.kx{w0:World}{a m p gp cp gs cs gl cl gi ci:Nat}{sg:Nat}{nn:Int}{bE bW bA bB bC bO:Nat}{st fd:Value}{mo k:Int}{W W':World}{S:List Nat}(h:Fw w0 a m p gp cp gs cs gl cl gi ci sg nn bE bW bA bB bC bO st fd mo k W)(hk:Kx S W W')(hS:∀j∈S,w0.heap.size≤j)(hn:∀x∈[a,gp,gs,gl,gi,m,bE,bW,bA],x ∉ S): Fw w0 a m p gp cp gs cs gl cl gi ci sg nn bE bW bA bB bC bO st fd mo k W':=⟨hk.bel h.bel hS,Wk.kx h.wk hk (hn _ sM),h.mf.kx hk (hn _ sM),h.cd.kx hk (hn _ sM) (hn _ sM) (hn _ sM) (hn _ sM),h.e.kx hk (hn _ sM),h.w.kx hk (hn _ sM),h.a.kx hk (hn _ sM)⟩
theorem Fw.setK{w0:World}{a m p gp cp gs cs gl cl gi ci:Nat}{sg:Nat}{nn:Int}{bE bW bA bB bC bO:Nat}{st fd:Value}{mo k:Int}{W:World}(h:Fw w0 a m p gp cp gs cs gl cl gi ci sg nn bE bW bA bB bC bO st fd mo k W)(hm0:w0.heap.size≤m)(hms:a≠m∧gp≠m∧gs≠m∧gl≠m∧gi≠m)(hmm:∀y∈[bE,bW,bA,bB,bC,bO],m<y)(k':Int): Fw w0 a m p gp cp gs cs gl cl gi ci sg nn bE bW bA bB bC bO st fd mo k' (W.setCell ⟨m,6,none⟩ (.int .i64 k')):=by
 have y1:=hmm bE sM;have y2:=hmm bW sM;have y3:=hmm bA sM
 obtain ⟨m1,m2,m3,m4,m5⟩ :=hms
 exact ⟨h.bel.setCell (by show w0.heap.size≤m;omega) _,h.wk.set (by show m≠a;omega) _,h.mf.setK k',h.cd.setO (by show m≠gp;omega) (by show m≠gs;omega) (by show m≠gl;omega) (by show m≠gi;omega) _,h.e.setO (by show m≠bE;omega) _,h.w.setO (by show m≠bW;omega) _,h.a.setO (by show m≠bA;omega) _⟩
theorem fd_held{w0:World}{a m p gp cp gs cs gl cl gi ci:Nat}{sg:Nat}{nn:Int}{bE bW bA bB bC bO:Nat}{st fd:Value}{mo:Int}{D:Nat}{W:World}(h:Hid (Fw w0 a m p gp cp gs cs gl cl gi ci sg nn bE bW bA bB bC bO st fd mo 1 W∧Bk D [.pointer (some ⟨p,0,none⟩),.int .i64 1] W)): (W).cell? ⟨bW,0,none⟩=some (.pointer (some ⟨a,0,none⟩))∧(W).cell? ⟨a,0,none⟩=some (.pointer (some ⟨m,0,none⟩))∧(W).cell? ⟨bA,0,none⟩=some (.int .i64 0)∧(W).cell? ⟨D,0,none⟩=some (.pointer (some ⟨p,0,none⟩))∧(W).cell? ⟨D,1,none⟩=some (.int .i64 1)∧Hid (Fw w0 a m p gp cp gs cs gl cl gi ci sg nn bE bW bA bB bC bO st fd mo 1 W∧Bk D [.pointer (some ⟨p,0,none⟩),.int .i64 1] W):=⟨h.out.1.w.c 0 _ rfl,h.out.1.wk.c0,h.out.1.a.c 0 _ rfl,h.out.2.c 0 _ rfl,h.out.2.c 1 _ rfl,h⟩
theorem fd_below{w0:World}{a m p gp cp gs cs gl cl gi ci:Nat}{sg:Nat}{nn:Int}{bE bW bA bB bC bO:Nat}{st fd:Value}{mo:Int}{D:Nat}{W W':World}(h:Hid (Fw w0 a m p gp cp gs cs gl cl gi ci sg nn bE bW bA bB bC bO st fd mo 1 W∧Bk D [.pointer (some ⟨p,0,none⟩),.int .i64 1] W))(hb:Below W.heap.size W W'): Hid (Fw w0 a m p gp cp gs cs gl cl gi ci sg nn bE bW bA bB bC bO st fd mo 1 W'∧Bk D [.pointer (some ⟨p,0,none⟩),.int .i64 1] W'):=hid ⟨h.out.1.below hb,h.out.2.below hb⟩
theorem fil_t(p n L:Nat)(T V:ByteArray)(hD:Doc T V n L)(hV:0<V.size)(c:Int)(hc:((V[0]'hV).toNat:Int)=c)(hk:c=45∨48≤c∧c≤57)(gp cp gs cs gl cl gi ci m a bE bW bA bB bC bO:Nat)(sg:Nat)(hsg:sg<6)(nn hh:Int)(w0:World)(hX:Ix w0 p T n)(hN:CmpQ w0 V nn hh)(st fd:Value)(mo:Int)(hB:∀x∈[bE,bW,bA,bB,bC,bO],w0.heap.size≤x)(hm0:w0.heap.size≤m)(hs:∀x∈[a,gp,gs,gl,gi,m],∀y∈[bE,bW,bA,bB,bC,bO],x<y)(hms:a≠m∧gp≠m∧gs≠m∧gl≠m∧gi≠m)(hb:sgB sg hh=true)(w:World)(h0:Below w0.heap.size w0 w)(hA:Fi a p bE bW bA bB bC bO false (-1) true w)(hW:Wk m st fd mo a w)(hM:Mf gp cp gs cs gl cl gi ci p 0 m w)(hC:Cdf gp gs gl gi (sg:Nat) nn w): Calls prog 332 #[.pointer (some ⟨bE,0,none⟩),.pointer (some ⟨bW,0,none⟩),.pointer (some ⟨bA,0,none⟩)] w fun e w'=>e=.returned (.tuple #[.agg #[.pointer (some ⟨p,0,none⟩),.int .i64 1],.bool true])∧Fi a p bE bW bA bB bC bO true 1 true w'∧Mf gp cp gs cs gl cl gi ci p 1 m w'∧Kx [bB,bC,bO,m] w w':=by
 have q1:=hB bE sM;have q2:=hB bW sM;have q3:=hB bA sM;have q4:=hB bB sM;have q5:=hB bC sM;have q6:=hB bO sM
 have hS3:∀j∈[bB,bC,bO],w0.heap.size≤j:=by intro x hx;simp only [List.mem_cons,List.not_mem_nil,or_false] at hx;rcases hx with rfl|rfl|rfl <;> assumption
 have hn3:∀x∈[a,gp,gs,gl,gi,m,bE,bW,bA],x ∉ [bB,bC,bO]:=by
  have ne:=hA.ne
  intro x hx hy
  have hx2:x∈[a,gp,gs,gl,gi,m]∨x∈[bE,bW,bA]:=by simp only [List.mem_cons,List.not_mem_nil,or_false] at hx ⊢;omega
  rcases hx2 with hx2|hx2
  ·have:=hs x hx2 x (by simp only [List.mem_cons,List.not_mem_nil,or_false] at hy ⊢;omega);omega
  ·have:=ne x hx2;simp only [List.mem_cons,List.not_mem_nil,or_false] at hy;omega
 have hmm:∀y∈[bE,bW,bA,bB,bC,bO],m<y:=hs m sM
 have F0:Hid (Fw w0 a m p gp cp gs cs gl cl gi ci sg nn bE bW bA bB bC bO st fd mo 0 w):=hid ⟨h0,hW,hM,hC,hA.e,hA.w,hA.a⟩
 have A0:=hid hA.al
 have he0:=hA.e.c 0 _ rfl
 have el:=hA.e.lt
 have hne:=hid hA.ne
 have Hn3:=hid hn3
 have HS3:=hid hS3
 have HMM:=hid hmm
 have eR:bE<w.heap.size∧bW<w.heap.size∧bA<w.heap.size:=⟨hA.e.lt,hA.w.lt,hA.a.lt⟩
 have HMS:=hid hms
 have QB:Hid (w0.heap.size≤bB∧w0.heap.size≤bC∧w0.heap.size≤bO):=hid ⟨q4,q5,q6⟩
 clear hn3 hS3 hmm hs hB hms q1 q2 q3 q4 q5 q6
 clear hA hW hM hC h0
 go_enter func332,ntmps332
 go_wp2_with fail
 have lb:=A0.out.b.lt;have lc:=A0.out.c.lt;have lo:=A0.out.o.lt
 refine (allx_1 p n L T V hD bB bC bO w0 hX QB.out.1 QB.out.2.1 QB.out.2.2 _ (F0.out.below (qR.alloc qL (.cells #[.pointer none,.int .i64 0] 128))).bel (A0.out.below (qR.alloc qL (.cells #[.pointer none,.int .i64 0] 128)))).mono ?_;rintro e w1 ⟨rfl,hA1,k1⟩
 have A1:=hid hA1
 have F1:=hid ((F0.out.below (qR.alloc qL (.cells #[.pointer none,.int .i64 0] 128))).kx k1 HS3.out Hn3.out)
 have K1:Hid (Kx [bB,bC,bO,m] w w1):=hid ((Kx.of (qR.alloc qL (.cells #[.pointer none,.int .i64 0] 128))).trans (k1.sub (by simp only [List.mem_cons,List.not_mem_nil,or_false];omega)))
 have r0:=k1.cell (p:=⟨w.heap.size,0,none⟩) sM (by simp;omega);simp [go_sem] at r0
 have r1:=k1.cell (p:=⟨w.heap.size,1,none⟩) sM (by simp;omega);simp [go_sem] at r1
 have z0:=k1.frozen (p:=⟨w.heap.size,0,none⟩) sM (by simp;omega);simp [go_sem] at z0
 have z1:=k1.frozen (p:=⟨w.heap.size,1,none⟩) sM (by simp;omega);simp [go_sem] at z1
 have s1:=k1.size;simp at s1
 have rl:w.heap.size<w1.heap.size:=oM
 obtain ⟨R,hR⟩:∃R,w.heap.size=R:=⟨_,rfl⟩
 have lR:bB<R∧bC<R∧bO<R:=oM
 have Rm:Hid ((bE<R∧bW<R∧bA<R)∧m<R∧(bB<R∧bC<R∧bO<R)∧w.heap.size≤R):=hid ⟨by omega,by have:=F0.out.mf.lt;omega,lR,by omega⟩
 clear eR
 rw [hR] at r0 r1 z0 z1 rl ⊢
 clear hA1 k1 F0 A0 he0 el lb lc lo s1
 have w0c:=F1.out.w.c 0 _ rfl;have wl:=F1.out.w.lt
 have a0c:=F1.out.a.c 0 _ rfl;have al:=F1.out.a.lt
 have k0:=F1.out.wk.c0;have kl:=F1.out.wk.lt
 have ml:=F1.out.mf.lt
 have wl1:bW<w1.heap.size+1:=oM
 have al1:bA<w1.heap.size+1:=oM
 have kl1:a<w1.heap.size+1:=oM
 have ml1:m<w1.heap.size+1:=oM
 have rl1:R<w1.heap.size+1:=oM
 go_wp2_with (first|(refine wp_loop_unr 3 ?_;refine Unr.step ?_;intro U hU)|(refine Unr.step ?_;intro U hU))
 refine (vstep_f gp cp gs cs gl cl gi ci p m _ (F1.out.below ((Below.refl w1.heap.size w1).alloc qL (.cells #[.pointer (some ⟨p,0,none⟩),.int .i64 1] 128))).mf).mono ?_;rintro e w2 ⟨rfl,rfl⟩
 have F2:=hid ((F1.out.below ((Below.refl w1.heap.size w1).alloc qL (.cells #[.pointer (some ⟨p,0,none⟩),.int .i64 1] 128))).setK hm0 HMS.out HMM.out 1)
 have A2:Hid (Al p bB bC bO true 1 true ((w1.alloc (.cells #[.pointer (some ⟨p,0,none⟩),.int .i64 1] 128)).setCell ⟨m,6,none⟩ (.int .i64 1))):=by
  have y4:=HMM.out bB sM;have y5:=HMM.out bC sM;have y6:=HMM.out bO sM
  have h:=A1.out.below ((Below.refl w1.heap.size w1).alloc qL (.cells #[.pointer (some ⟨p,0,none⟩),.int .i64 1] 128))
  exact hid ⟨h.b.setO (by show m≠bB;omega) _,h.c.setO (by show m≠bC;omega) _,h.o.setO (by show m≠bO;omega) _,h.bc,h.bo,h.co⟩
 have K2:Hid (Kx [bB,bC,bO,m] w ((w1.alloc (.cells #[.pointer (some ⟨p,0,none⟩),.int .i64 1] 128)).setCell ⟨m,6,none⟩ (.int .i64 1))):=hid ((K1.out.alloc _).set (.inl sM) _)
 have rc0:((w1.alloc (.cells #[.pointer (some ⟨p,0,none⟩),.int .i64 1] 128)).setCell ⟨m,6,none⟩ (.int .i64 1)).cell? ⟨R,0,none⟩=some (.pointer none):=(qO (by intro e;injection e with e1;have:=Rm.out.2.1;omega)).trans ((((Below.refl w1.heap.size w1).alloc qL (.cells #[.pointer (some ⟨p,0,none⟩),.int .i64 1] 128)).cell (p:=⟨R,0,none⟩) rl).trans r0)
 have rc1:((w1.alloc (.cells #[.pointer (some ⟨p,0,none⟩),.int .i64 1] 128)).setCell ⟨m,6,none⟩ (.int .i64 1)).cell? ⟨R,1,none⟩=some (.int .i64 0):=(qO (by intro e;injection e with e1;have:=Rm.out.2.1;omega)).trans ((((Below.refl w1.heap.size w1).alloc qL (.cells #[.pointer (some ⟨p,0,none⟩),.int .i64 1] 128)).cell (p:=⟨R,1,none⟩) rl).trans r1)
 have rz0:((w1.alloc (.cells #[.pointer (some ⟨p,0,none⟩),.int .i64 1] 128)).setCell ⟨m,6,none⟩ (.int .i64 1)).frozen? ⟨R,0,none⟩=false:=qF.trans ((((Below.refl w1.heap.size w1).alloc qL (.cells #[.pointer (some ⟨p,0,none⟩),.int .i64 1] 128)).frozen (p:=⟨R,0,none⟩) rl).trans z0)
 have rz1:((w1.alloc (.cells #[.pointer (some ⟨p,0,none⟩),.int .i64 1] 128)).setCell ⟨m,6,none⟩ (.int .i64 1)).frozen? ⟨R,1,none⟩=false:=qF.trans ((((Below.refl w1.heap.size w1).alloc qL (.cells #[.pointer (some ⟨p,0,none⟩),.int .i64 1] 128)).frozen (p:=⟨R,1,none⟩) rl).trans z1)
 have BD:Hid (Bk w1.heap.size [.pointer (some ⟨p,0,none⟩),.int .i64 1] ((w1.alloc (.cells #[.pointer (some ⟨p,0,none⟩),.int .i64 1] 128)).setCell ⟨m,6,none⟩ (.int .i64 1))):=hid ((Bk.new w1 #[.pointer (some ⟨p,0,none⟩),.int .i64 1] 128).setO (by show m≠w1.heap.size;omega) _)
 have rd:R<w1.heap.size:=rl
 have rl2:R<((w1.alloc (.cells #[.pointer (some ⟨p,0,none⟩),.int .i64 1] 128)).setCell ⟨m,6,none⟩ (.int .i64 1)).heap.size:=by simp [World.setCell];omega
 have bd:bB<w1.heap.size:=oM
 clear F1 A1 K1 w0c wl a0c al k0 kl ml wl1 al1 kl1 ml1 rl1 r0 r1 z0 z1 rl
 generalize (w1.alloc (.cells #[.pointer (some ⟨p,0,none⟩),.int .i64 1] 128)).setCell ⟨m,6,none⟩ (.int .i64 1)=W2 at F2 A2 K2 rc0 rc1 rz0 rz1 BD rl2 ⊢
 generalize w1.heap.size=D at BD rd bd ⊢
 clear rd bd lR
 have w0c:=F2.out.w.c 0 _ rfl;have wl:=F2.out.w.lt
 have a0c:=F2.out.a.c 0 _ rfl;have al:=F2.out.a.lt
 have k0:=F2.out.wk.c0;have kl:=F2.out.wk.lt
 have ml:=F2.out.mf.lt
 have d0:=BD.out.c 0 _ rfl;have d1:=BD.out.c 1 _ rfl;have dl:=BD.out.lt
 go_wp2_with (first|(refine wp_loop_unr 3 ?_;refine Unr.step ?_;intro U hU)|(refine Unr.step ?_;intro U hU))
 have hT:∀W:World,Below W2.heap.size W2 W→Calls prog 333 #[.pointer (some ⟨m,0,none⟩),.int .i64 0,.agg #[.pointer (some ⟨p,0,none⟩),.int .i64 1]] W fun e w'=>e=.returned (.tuple #[.bool true,.int .i64 0])∧Hid (Below W2.heap.size W2 w'):=fun W hW=>by
  have h:=F2.out.below hW
  refine (truth_f p n L T V hD hV c hc hk gp cp gs cs gl cl gi ci m sg hsg nn hh 1 W (hX.below h.bel) (hN.below h.bel) h.mf h.cd).mono ?_
  rintro e w' ⟨h1,h2⟩
  rw [hb] at h1
  exact ⟨h1,hid (hW.trans (h2.mono hW.size))⟩
 have FD2:Hid (Fw w0 a m p gp cp gs cs gl cl gi ci sg nn bE bW bA bB bC bO st fd mo 1 W2∧Bk D [.pointer (some ⟨p,0,none⟩),.int .i64 1] W2):=hid ⟨F2.out,BD.out⟩
 go_region_held3 (fun w'=>(w').cell? ⟨bW,0,none⟩=some (.pointer (some ⟨a,0,none⟩))∧(w').cell? ⟨a,0,none⟩=some (.pointer (some ⟨m,0,none⟩))∧(w').cell? ⟨bA,0,none⟩=some (.int .i64 0)∧(w').cell? ⟨D,0,none⟩=some (.pointer (some ⟨p,0,none⟩))∧(w').cell? ⟨D,1,none⟩=some (.int .i64 1)∧Hid (Fw w0 a m p gp cp gs cs gl cl gi ci sg nn bE bW bA bB bC bO st fd mo 1 w'∧Bk D [.pointer (some ⟨p,0,none⟩),.int .i64 1] w')) (first|exact fd_held FD2|exact fd_held (fd_below FD2 qR.drew)|exact fd_held (fd_below FD2 (Hid.out aM))) (first|(go_at_call 333;refine (hT _ (by first|exact qR|exact qR.drew)).mono ?_;rintro e w3 ⟨rfl,HH3⟩))
 have hb3:=HH3.out
 have F3:=hid (F2.out.below hb3)
 have A3:=hid (A2.out.below hb3)
 have K3:=hid (K2.out.step hb3)
 have BD3:=hid (BD.out.below hb3)
 have rc03:=(hb3.cell (p:=⟨R,0,none⟩) rl2).trans rc0
 have rc13:=(hb3.cell (p:=⟨R,1,none⟩) rl2).trans rc1
 have rz03:=(hb3.frozen (p:=⟨R,0,none⟩) rl2).trans rz0
 have rz13:=(hb3.frozen (p:=⟨R,1,none⟩) rl2).trans rz1
 have rl3:=Nat.lt_of_lt_of_le rl2 hb3.size
 clear F2 A2 K2 BD w0c wl a0c al k0 kl ml d0 d1 dl rc0 rc1 rz0 rz1 rl2 hb3 HH3 hT FD2
 have d0:=BD3.out.c 0 _ rfl
 have d1:=BD3.out.c 1 _ rfl
 have dl:=BD3.out.lt
 have dz0:=BD3.out.z 0 sM
 have dz1:=BD3.out.z 1 sM
 have e0:=F3.out.e.c 0 _ rfl
 have el:=F3.out.e.lt
 all_goals go_wp2_with (first|(refine wp_loop_unr 3 ?_;refine Unr.step ?_;intro U hU)|(refine Unr.step ?_;intro U hU))
 all_goals try simp only [Exit.inBlock,Exit.then]
 all_goals
  obtain ⟨⟨R1,R2,R3⟩,R4,⟨R5,R6,R7⟩,R8⟩ :=Rm.out
  refine bodyPost_ret (v:=.tuple #[.agg #[.pointer (some ⟨p,0,none⟩),.int .i64 1],.bool true]) (by simp [results,results332,go_sem,rc03,rc13]) rfl ⟨rfl,⟨(F3.out.e.setO (by show R≠bE;omega) _).setO (by show R≠bE;omega) _,(F3.out.w.setO (by show R≠bW;omega) _).setO (by show R≠bW;omega) _,(F3.out.a.setO (by show R≠bA;omega) _).setO (by show R≠bA;omega) _,⟨(A3.out.b.setO (by show R≠bB;omega) _).setO (by show R≠bB;omega) _,(A3.out.c.setO (by show R≠bC;omega) _).setO (by show R≠bC;omega) _,(A3.out.o.setO (by show R≠bO;omega) _).setO (by show R≠bO;omega) _,A3.out.bc,A3.out.bo,A3.out.co⟩,hne.out⟩,(F3.out.mf.set (a:=⟨R,0,none⟩) (by show R≠m;omega) _).set (a:=⟨R,1,none⟩) (by show R≠m;omega) _,(K3.out.set (.inr (by show w.heap.size≤R;omega)) _).set (.inr (by show w.heap.size≤R;omega)) _⟩
theorem fil_f(p n L:Nat)(T V:ByteArray)(hD:Doc T V n L)(hV:0<V.size)(c:Int)(hc:((V[0]'hV).toNat:Int)=c)(hk:c=45∨48≤c∧c≤57)(gp cp gs cs gl cl gi ci m a bE bW bA bB bC bO:Nat)(sg:Nat)(hsg:sg<6)(nn hh:Int)(w0:World)(hX:Ix w0 p T n)(hN:CmpQ w0 V nn hh)(st fd:Value)(mo:Int)(hB:∀x∈[bE,bW,bA,bB,bC,bO],w0.heap.size≤x)(hm0:w0.heap.size≤m)(hs:∀x∈[a,gp,gs,gl,gi,m],∀y∈[bE,bW,bA,bB,bC,bO],x<y)(hms:a≠m∧gp≠m∧gs≠m∧gl≠m∧gi≠m)(hb:sgB sg hh=false)(w:World)(h0:Below w0.heap.size w0 w)(hA:Fi a p bE bW bA bB bC bO false (-1) true w)(hW:Wk m st fd mo a w)(hM:Mf gp cp gs cs gl cl gi ci p 0 m w)(hC:Cdf gp gs gl gi (sg:Nat) nn w): Calls prog 332 #[.pointer (some ⟨bE,0,none⟩),.pointer (some ⟨bW,0,none⟩),.pointer (some ⟨bA,0,none⟩)] w fun e w'=>e=.returned (.tuple #[.agg #[.pointer none,.int .i64 0],.bool false])∧Mf gp cp gs cs gl cl gi ci p 1 m w'∧Kx [bB,bC,bO,m] w w':=by
 have q1:=hB bE sM;have q2:=hB bW sM;have q3:=hB bA sM;have q4:=hB bB sM;have q5:=hB bC sM;have q6:=hB bO sM
 have hS3:∀j∈[bB,bC,bO],w0.heap.size≤j:=by intro x hx;simp only [List.mem_cons,List.not_mem_nil,or_false] at hx;rcases hx with rfl|rfl|rfl <;> assumption
 have hn3:∀x∈[a,gp,gs,gl,gi,m,bE,bW,bA],x ∉ [bB,bC,bO]:=by
  have ne:=hA.ne
  intro x hx hy
  have hx2:x∈[a,gp,gs,gl,gi,m]∨x∈[bE,bW,bA]:=by simp only [List.mem_cons,List.not_mem_nil,or_false] at hx ⊢;omega
  rcases hx2 with hx2|hx2
  ·have:=hs x hx2 x (by simp only [List.mem_cons,List.not_mem_nil,or_false] at hy ⊢;omega);omega
  ·have:=ne x hx2;simp only [List.mem_cons,List.not_mem_nil,or_false] at hy;omega
 have hmm:∀y∈[bE,bW,bA,bB,bC,bO],m<y:=hs m sM
 have F0:Hid (Fw w0 a m p gp cp gs cs gl cl gi ci sg nn bE bW bA bB bC bO st fd mo 0 w):=hid ⟨h0,hW,hM,hC,hA.e,hA.w,hA.a⟩
 have A0:=hid hA.al
 have he0:=hA.e.c 0 _ rfl
 have el:=hA.e.lt
 have hne:=hid hA.ne
 have Hn3:=hid hn3
 have HS3:=hid hS3
 have HMM:=hid hmm
 have eR:bE<w.heap.size∧bW<w.heap.size∧bA<w.heap.size:=⟨hA.e.lt,hA.w.lt,hA.a.lt⟩
 have HMS:=hid hms
 have QB:Hid (w0.heap.size≤bB∧w0.heap.size≤bC∧w0.heap.size≤bO):=hid ⟨q4,q5,q6⟩
 clear hn3 hS3 hmm hs hB hms q1 q2 q3 q4 q5 q6
 clear hA hW hM hC h0
 go_enter func332,ntmps332
 go_wp2_with fail
 have lb:=A0.out.b.lt;have lc:=A0.out.c.lt;have lo:=A0.out.o.lt
 refine (allx_1 p n L T V hD bB bC bO w0 hX QB.out.1 QB.out.2.1 QB.out.2.2 _ (F0.out.below (qR.alloc qL (.cells #[.pointer none,.int .i64 0] 128))).bel (A0.out.below (qR.alloc qL (.cells #[.pointer none,.int .i64 0] 128)))).mono ?_;rintro e w1 ⟨rfl,hA1,k1⟩
 have A1:=hid hA1
 have F1:=hid ((F0.out.below (qR.alloc qL (.cells #[.pointer none,.int .i64 0] 128))).kx k1 HS3.out Hn3.out)
 have K1:Hid (Kx [bB,bC,bO,m] w w1):=hid ((Kx.of (qR.alloc qL (.cells #[.pointer none,.int .i64 0] 128))).trans (k1.sub (by simp only [List.mem_cons,List.not_mem_nil,or_false];omega)))
 have r0:=k1.cell (p:=⟨w.heap.size,0,none⟩) sM (by simp;omega);simp [go_sem] at r0
 have r1:=k1.cell (p:=⟨w.heap.size,1,none⟩) sM (by simp;omega);simp [go_sem] at r1
 have z0:=k1.frozen (p:=⟨w.heap.size,0,none⟩) sM (by simp;omega);simp [go_sem] at z0
 have z1:=k1.frozen (p:=⟨w.heap.size,1,none⟩) sM (by simp;omega);simp [go_sem] at z1
 have s1:=k1.size;simp at s1
 have rl:w.heap.size<w1.heap.size:=oM
 obtain ⟨R,hR⟩:∃R,w.heap.size=R:=⟨_,rfl⟩
 have lR:bB<R∧bC<R∧bO<R:=oM
 have Rm:Hid ((bE<R∧bW<R∧bA<R)∧m<R∧(bB<R∧bC<R∧bO<R)∧w.heap.size≤R):=hid ⟨by omega,by have:=F0.out.mf.lt;omega,lR,by omega⟩
 clear eR
 rw [hR] at r0 r1 z0 z1 rl ⊢
 clear hA1 k1 F0 A0 he0 el lb lc lo s1
 have w0c:=F1.out.w.c 0 _ rfl;have wl:=F1.out.w.lt
 have a0c:=F1.out.a.c 0 _ rfl;have al:=F1.out.a.lt
 have k0:=F1.out.wk.c0;have kl:=F1.out.wk.lt
 have ml:=F1.out.mf.lt
 have wl1:bW<w1.heap.size+1:=oM
 have al1:bA<w1.heap.size+1:=oM
 have kl1:a<w1.heap.size+1:=oM
 have ml1:m<w1.heap.size+1:=oM
 have rl1:R<w1.heap.size+1:=oM
 go_wp2_with (first|(refine wp_loop_unr 3 ?_;refine Unr.step ?_;intro U hU)|(refine Unr.step ?_;intro U hU))
 refine (vstep_f gp cp gs cs gl cl gi ci p m _ (F1.out.below ((Below.refl w1.heap.size w1).alloc qL (.cells #[.pointer (some ⟨p,0,none⟩),.int .i64 1] 128))).mf).mono ?_;rintro e w2 ⟨rfl,rfl⟩
 have F2:=hid ((F1.out.below ((Below.refl w1.heap.size w1).alloc qL (.cells #[.pointer (some ⟨p,0,none⟩),.int .i64 1] 128))).setK hm0 HMS.out HMM.out 1)
 have A2:Hid (Al p bB bC bO true 1 true ((w1.alloc (.cells #[.pointer (some ⟨p,0,none⟩),.int .i64 1] 128)).setCell ⟨m,6,none⟩ (.int .i64 1))):=by
  have y4:=HMM.out bB sM;have y5:=HMM.out bC sM;have y6:=HMM.out bO sM
  have h:=A1.out.below ((Below.refl w1.heap.size w1).alloc qL (.cells #[.pointer (some ⟨p,0,none⟩),.int .i64 1] 128))
  exact hid ⟨h.b.setO (by show m≠bB;omega) _,h.c.setO (by show m≠bC;omega) _,h.o.setO (by show m≠bO;omega) _,h.bc,h.bo,h.co⟩
 have K2:Hid (Kx [bB,bC,bO,m] w ((w1.alloc (.cells #[.pointer (some ⟨p,0,none⟩),.int .i64 1] 128)).setCell ⟨m,6,none⟩ (.int .i64 1))):=hid ((K1.out.alloc _).set (.inl sM) _)
 have rc0:((w1.alloc (.cells #[.pointer (some ⟨p,0,none⟩),.int .i64 1] 128)).setCell ⟨m,6,none⟩ (.int .i64 1)).cell? ⟨R,0,none⟩=some (.pointer none):=(qO (by intro e;injection e with e1;have:=Rm.out.2.1;omega)).trans ((((Below.refl w1.heap.size w1).alloc qL (.cells #[.pointer (some ⟨p,0,none⟩),.int .i64 1] 128)).cell (p:=⟨R,0,none⟩) rl).trans r0)
 have rc1:((w1.alloc (.cells #[.pointer (some ⟨p,0,none⟩),.int .i64 1] 128)).setCell ⟨m,6,none⟩ (.int .i64 1)).cell? ⟨R,1,none⟩=some (.int .i64 0):=(qO (by intro e;injection e with e1;have:=Rm.out.2.1;omega)).trans ((((Below.refl w1.heap.size w1).alloc qL (.cells #[.pointer (some ⟨p,0,none⟩),.int .i64 1] 128)).cell (p:=⟨R,1,none⟩) rl).trans r1)
 have rz0:((w1.alloc (.cells #[.pointer (some ⟨p,0,none⟩),.int .i64 1] 128)).setCell ⟨m,6,none⟩ (.int .i64 1)).frozen? ⟨R,0,none⟩=false:=qF.trans ((((Below.refl w1.heap.size w1).alloc qL (.cells #[.pointer (some ⟨p,0,none⟩),.int .i64 1] 128)).frozen (p:=⟨R,0,none⟩) rl).trans z0)
 have rz1:((w1.alloc (.cells #[.pointer (some ⟨p,0,none⟩),.int .i64 1] 128)).setCell ⟨m,6,none⟩ (.int .i64 1)).frozen? ⟨R,1,none⟩=false:=qF.trans ((((Below.refl w1.heap.size w1).alloc qL (.cells #[.pointer (some ⟨p,0,none⟩),.int .i64 1] 128)).frozen (p:=⟨R,1,none⟩) rl).trans z1)
 have BD:Hid (Bk w1.heap.size [.pointer (some ⟨p,0,none⟩),.int .i64 1] ((w1.alloc (.cells #[.pointer (some ⟨p,0,none⟩),.int .i64 1] 128)).setCell ⟨m,6,none⟩ (.int .i64 1))):=hid ((Bk.new w1 #[.pointer (some ⟨p,0,none⟩),.int .i64 1] 128).setO (by show m≠w1.heap.size;omega) _)
 have rd:R<w1.heap.size:=rl
 have rl2:R<((w1.alloc (.cells #[.pointer (some ⟨p,0,none⟩),.int .i64 1] 128)).setCell ⟨m,6,none⟩ (.int .i64 1)).heap.size:=by simp [World.setCell];omega
 have bd:bB<w1.heap.size:=oM
 clear F1 A1 K1 w0c wl a0c al k0 kl ml wl1 al1 kl1 ml1 rl1 r0 r1 z0 z1 rl
 generalize (w1.alloc (.cells #[.pointer (some ⟨p,0,none⟩),.int .i64 1] 128)).setCell ⟨m,6,none⟩ (.int .i64 1)=W2 at F2 A2 K2 rc0 rc1 rz0 rz1 BD rl2 ⊢
 generalize w1.heap.size=D at BD rd bd ⊢
 clear rd bd lR
 have w0c:=F2.out.w.c 0 _ rfl;have wl:=F2.out.w.lt
 have a0c:=F2.out.a.c 0 _ rfl;have al:=F2.out.a.lt
 have k0:=F2.out.wk.c0;have kl:=F2.out.wk.lt
 have ml:=F2.out.mf.lt
 have d0:=BD.out.c 0 _ rfl;have d1:=BD.out.c 1 _ rfl;have dl:=BD.out.lt
 go_wp2_with (first|(refine wp_loop_unr 3 ?_;refine Unr.step ?_;intro U hU)|(refine Unr.step ?_;intro U hU))
 have hT:∀W:World,Below W2.heap.size W2 W→Calls prog 333 #[.pointer (some ⟨m,0,none⟩),.int .i64 0,.agg #[.pointer (some ⟨p,0,none⟩),.int .i64 1]] W fun e w'=>e=.returned (.tuple #[.bool false,.int .i64 0])∧Hid (Below W2.heap.size W2 w'):=fun W hW=>by
  have h:=F2.out.below hW
  refine (truth_f p n L T V hD hV c hc hk gp cp gs cs gl cl gi ci m sg hsg nn hh 1 W (hX.below h.bel) (hN.below h.bel) h.mf h.cd).mono ?_
  rintro e w' ⟨h1,h2⟩
  rw [hb] at h1
  exact ⟨h1,hid (hW.trans (h2.mono hW.size))⟩
 have FD2:Hid (Fw w0 a m p gp cp gs cs gl cl gi ci sg nn bE bW bA bB bC bO st fd mo 1 W2∧Bk D [.pointer (some ⟨p,0,none⟩),.int .i64 1] W2):=hid ⟨F2.out,BD.out⟩
 go_region_held3 (fun w'=>(w').cell? ⟨bW,0,none⟩=some (.pointer (some ⟨a,0,none⟩))∧(w').cell? ⟨a,0,none⟩=some (.pointer (some ⟨m,0,none⟩))∧(w').cell? ⟨bA,0,none⟩=some (.int .i64 0)∧(w').cell? ⟨D,0,none⟩=some (.pointer (some ⟨p,0,none⟩))∧(w').cell? ⟨D,1,none⟩=some (.int .i64 1)∧Hid (Fw w0 a m p gp cp gs cs gl cl gi ci sg nn bE bW bA bB bC bO st fd mo 1 w'∧Bk D [.pointer (some ⟨p,0,none⟩),.int .i64 1] w')) (first|exact fd_held FD2|exact fd_held (fd_below FD2 qR.drew)|exact fd_held (fd_below FD2 (Hid.out aM))) (first|(go_at_call 333;refine (hT _ (by first|exact qR|exact qR.drew)).mono ?_;rintro e w3 ⟨rfl,HH3⟩))
 have hb3:=HH3.out
 have F3:=hid (F2.out.below hb3)
 have A3:=hid (A2.out.below hb3)
 have K3:=hid (K2.out.step hb3)
 have BD3:=hid (BD.out.below hb3)
 have rc03:=(hb3.cell (p:=⟨R,0,none⟩) rl2).trans rc0
 have rc13:=(hb3.cell (p:=⟨R,1,none⟩) rl2).trans rc1
 have rz03:=(hb3.frozen (p:=⟨R,0,none⟩) rl2).trans rz0
 have rz13:=(hb3.frozen (p:=⟨R,1,none⟩) rl2).trans rz1
 have rl3:=Nat.lt_of_lt_of_le rl2 hb3.size
 clear F2 A2 K2 BD w0c wl a0c al k0 kl ml d0 d1 dl rc0 rc1 rz0 rz1 rl2 hb3 HH3 hT FD2
 have d0:=BD3.out.c 0 _ rfl
 have d1:=BD3.out.c 1 _ rfl
 have dl:=BD3.out.lt
 have dz0:=BD3.out.z 0 sM
 have dz1:=BD3.out.z 1 sM
 have e0:=F3.out.e.c 0 _ rfl
 have el:=F3.out.e.lt
 go_wp2_with (first|(refine wp_loop_unr 3 ?_;refine Unr.step ?_;intro U hU)|(refine Unr.step ?_;intro U hU))
 have lb:=A3.out.b.lt;have lc:=A3.out.c.lt;have lo:=A3.out.o.lt
 refine (allx_2 p n L T V hD bB bC bO w0 hX QB.out.1 QB.out.2.1 QB.out.2.2 _ (F3.out.below ((Below.refl w3.heap.size w3).alloc qL (.cells #[.pointer (some ⟨p,0,none⟩),.int .i64 1] 128))).bel (A3.out.below ((Below.refl w3.heap.size w3).alloc qL (.cells #[.pointer (some ⟨p,0,none⟩),.int .i64 1] 128)))).mono ?_;rintro e w4 ⟨rfl,k4⟩
 have F4:=hid ((F3.out.below ((Below.refl w3.heap.size w3).alloc qL (.cells #[.pointer (some ⟨p,0,none⟩),.int .i64 1] 128))).kx k4 HS3.out Hn3.out)
 have K4:Hid (Kx [bB,bC,bO,m] w w4):=hid ((K3.out.alloc _).trans (k4.sub (by simp only [List.mem_cons,List.not_mem_nil,or_false];omega)))
 have hRn:R ∉ [bB,bC,bO]:=by have:=Rm.out.2.2.1;simp only [List.mem_cons,List.not_mem_nil,or_false];omega
 have hDn:w3.heap.size ∉ [bB,bC,bO]:=by simp only [List.mem_cons,List.not_mem_nil,or_false];omega
 have rl3':R<(w3.alloc (.cells #[.pointer (some ⟨p,0,none⟩),.int .i64 1] 128)).heap.size:=by simp;omega
 have rc04:=((k4.cell (p:=⟨R,0,none⟩) rl3' hRn).trans (((Below.refl w3.heap.size w3).alloc qL (.cells #[.pointer (some ⟨p,0,none⟩),.int .i64 1] 128)).cell (p:=⟨R,0,none⟩) rl3)).trans rc03
 have rc14:=((k4.cell (p:=⟨R,1,none⟩) rl3' hRn).trans (((Below.refl w3.heap.size w3).alloc qL (.cells #[.pointer (some ⟨p,0,none⟩),.int .i64 1] 128)).cell (p:=⟨R,1,none⟩) rl3)).trans rc13
 have rz04:=((k4.frozen (p:=⟨R,0,none⟩) rl3' hRn).trans (((Below.refl w3.heap.size w3).alloc qL (.cells #[.pointer (some ⟨p,0,none⟩),.int .i64 1] 128)).frozen (p:=⟨R,0,none⟩) rl3)).trans rz03
 have rz14:=((k4.frozen (p:=⟨R,1,none⟩) rl3' hRn).trans (((Below.refl w3.heap.size w3).alloc qL (.cells #[.pointer (some ⟨p,0,none⟩),.int .i64 1] 128)).frozen (p:=⟨R,1,none⟩) rl3)).trans rz13
 have B4:=hid ((Bk.new w3 #[.pointer (some ⟨p,0,none⟩),.int .i64 1] 128).kx k4 hDn)
 have rl4:=Nat.lt_of_lt_of_le rl3' k4.size
 have RD:R≠w3.heap.size:=oM
 have DS:Hid (w.heap.size≤w3.heap.size):=hid K3.out.size
 have DM:Hid (m<w3.heap.size):=hid F3.out.mf.lt
 clear F3 A3 K3 BD3 rc03 rc13 rz03 rz13 d0 d1 dl dz0 dz1 e0 el lb lc lo k4 hRn hDn rl3' rl3
 generalize w3.heap.size=D2 at B4 RD DS DM ⊢
 have d0:=B4.out.c 0 _ rfl;have d1:=B4.out.c 1 _ rfl;have dl:=B4.out.lt
 have dz0:=B4.out.z 0 sM;have dz1:=B4.out.z 1 sM
 go_wp2_with (first|(refine wp_loop_unr 3 ?_;refine Unr.step ?_;intro U hU)|(refine Unr.step ?_;intro U hU))
 have M5:Hid (Mf gp cp gs cs gl cl gi ci p 1 m ((w4.setCell ⟨D2,0,none⟩ (.pointer none)).setCell ⟨D2,1,none⟩ (.int .i64 0))):=hid ((F4.out.mf.set (a:=⟨D2,0,none⟩) (by show D2≠m;have:=DM.out;omega) _).set (a:=⟨D2,1,none⟩) (by show D2≠m;have:=DM.out;omega) _)
 have K5:Hid (Kx [bB,bC,bO,m] w ((w4.setCell ⟨D2,0,none⟩ (.pointer none)).setCell ⟨D2,1,none⟩ (.int .i64 0))):=hid ((K4.out.set (.inr DS.out) _).set (.inr DS.out) _)
 have hRo:∀j k:Nat,(⟨D2,k,none⟩:Addr)≠⟨R,j,none⟩ :=fun j k e=>by injection e with e1;omega
 have rc05:((w4.setCell ⟨D2,0,none⟩ (.pointer none)).setCell ⟨D2,1,none⟩ (.int .i64 0)).cell? ⟨R,0,none⟩=_:=((qO (hRo 0 1)).trans (qO (hRo 0 0))).trans rc04
 have rc15:((w4.setCell ⟨D2,0,none⟩ (.pointer none)).setCell ⟨D2,1,none⟩ (.int .i64 0)).cell? ⟨R,1,none⟩=_:=((qO (hRo 1 1)).trans (qO (hRo 1 0))).trans rc14
 have rz05:((w4.setCell ⟨D2,0,none⟩ (.pointer none)).setCell ⟨D2,1,none⟩ (.int .i64 0)).frozen? ⟨R,0,none⟩=false:=(qF.trans qF).trans rz04
 have rz15:((w4.setCell ⟨D2,0,none⟩ (.pointer none)).setCell ⟨D2,1,none⟩ (.int .i64 0)).frozen? ⟨R,1,none⟩=false:=(qF.trans qF).trans rz14
 have rl5:R<((w4.setCell ⟨D2,0,none⟩ (.pointer none)).setCell ⟨D2,1,none⟩ (.int .i64 0)).heap.size:=by simp [World.setCell];omega
 clear F4 K4 rc04 rc14 rz04 rz14 B4 rl4 RD DM d0 d1 dl dz0 dz1 hRo
 generalize (w4.setCell ⟨D2,0,none⟩ (.pointer none)).setCell ⟨D2,1,none⟩ (.int .i64 0)=W5 at M5 K5 rc05 rc15 rz05 rz15 rl5 ⊢
 refine (none_0 _).mono ?_;rintro e w6 ⟨rfl,hb6⟩
 have M6:=hid (M5.out.below hb6)
 have K6:=hid (K5.out.step hb6)
 have rc06:=(hb6.cell (p:=⟨R,0,none⟩) rl5).trans rc05
 have rc16:=(hb6.cell (p:=⟨R,1,none⟩) rl5).trans rc15
 have rz06:=(hb6.frozen (p:=⟨R,0,none⟩) rl5).trans rz05
 have rz16:=(hb6.frozen (p:=⟨R,1,none⟩) rl5).trans rz15
 have rl6:=Nat.lt_of_lt_of_le rl5 hb6.size
 clear M5 K5 rc05 rc15 rz05 rz15 rl5 hb6
 go_wp2_with (first|(refine wp_loop_unr 3 ?_;refine Unr.step ?_;intro U hU)|(refine Unr.step ?_;intro U hU))
 try simp only [Exit.inBlock,Exit.then]
 obtain ⟨⟨R1,R2,R3⟩,R4,⟨R5,R6,R7⟩,R8⟩ :=Rm.out
 refine bodyPost_ret (v:=.tuple #[.agg #[.pointer none,.int .i64 0],.bool false]) (by simp [results,results332,go_sem,rc06,rc16]) rfl ⟨rfl,(M6.out.set (a:=⟨R,0,none⟩) (by show R≠m;omega) _).set (a:=⟨R,1,none⟩) (by show R≠m;omega) _,(K6.out.set (.inr R8) _).set (.inr R8) _⟩
theorem fil_2(p n L:Nat)(T V:ByteArray)(hD:Doc T V n L)(a bE bW bA bB bC bO:Nat)(w0:World)(hX:Ix w0 p T n)(hB:∀x∈[bE,bW,bA,bB,bC,bO],w0.heap.size≤x)(w:World)(h0:Below w0.heap.size w0 w)(hA:Fi a p bE bW bA bB bC bO true 1 true w): Calls prog 332 #[.pointer (some ⟨bE,0,none⟩),.pointer (some ⟨bW,0,none⟩),.pointer (some ⟨bA,0,none⟩)] w fun e w'=>e=.returned (.tuple #[.agg #[.pointer none,.int .i64 0],.bool false])∧Kx [bB,bC,bO] w w':=by
 have QB:Hid (w0.heap.size≤bB∧w0.heap.size≤bC∧w0.heap.size≤bO):=hid ⟨hB bB sM,hB bC sM,hB bO sM⟩
 have A0:=hid hA.al
 have e0:=hA.e.c 0 _ rfl
 have el:=hA.e.lt
 have lb:=A0.out.b.lt;have lc:=A0.out.c.lt;have lo:=A0.out.o.lt
 have H0:=hid h0
 clear hB hA h0
 go_enter func332,ntmps332
 go_wp2_with fail
 refine (allx_2 p n L T V hD bB bC bO w0 hX QB.out.1 QB.out.2.1 QB.out.2.2 _ (H0.out.trans ((qR.alloc qL (.cells #[.pointer none,.int .i64 0] 128)).mono H0.out.size)) (A0.out.below (qR.alloc qL (.cells #[.pointer none,.int .i64 0] 128)))).mono ?_;rintro e w1 ⟨rfl,k1⟩
 have K1:Hid (Kx [bB,bC,bO] w w1):=hid ((Kx.of (qR.alloc qL (.cells #[.pointer none,.int .i64 0] 128))).trans k1)
 have r0:=k1.cell (p:=⟨w.heap.size,0,none⟩) sM (by simp;omega);simp [go_sem] at r0
 have r1:=k1.cell (p:=⟨w.heap.size,1,none⟩) sM (by simp;omega);simp [go_sem] at r1
 have z0:=k1.frozen (p:=⟨w.heap.size,0,none⟩) sM (by simp;omega);simp [go_sem] at z0
 have z1:=k1.frozen (p:=⟨w.heap.size,1,none⟩) sM (by simp;omega);simp [go_sem] at z1
 have s1:=k1.size;simp at s1
 have rl:w.heap.size<w1.heap.size:=oM
 clear k1 A0 H0 e0 el lb lc lo
 obtain ⟨R,hR⟩:∃R,w.heap.size=R:=⟨_,rfl⟩
 have R8:Hid (w.heap.size≤R):=hid oM
 rw [hR] at r0 r1 z0 z1 rl ⊢
 have rl1:R<w1.heap.size+1:=oM
 go_wp2_with (first|(refine wp_loop_unr 3 ?_;refine Unr.step ?_;intro U hU)|(refine Unr.step ?_;intro U hU))
 have AZ:=((Below.refl w1.heap.size w1).alloc qL (.cells #[.pointer none,.int .i64 0] 128))
 refine (none_0 _).mono ?_;rintro e w6 ⟨rfl,hb6⟩
 have K6:=hid ((K1.out.step AZ).step hb6)
 have rl2:R<(w1.alloc (.cells #[.pointer none,.int .i64 0] 128)).heap.size:=by simp;omega
 have rc06:=((hb6.cell (p:=⟨R,0,none⟩) rl2).trans (AZ.cell (p:=⟨R,0,none⟩) rl)).trans r0
 have rc16:=((hb6.cell (p:=⟨R,1,none⟩) rl2).trans (AZ.cell (p:=⟨R,1,none⟩) rl)).trans r1
 have rz06:=((hb6.frozen (p:=⟨R,0,none⟩) rl2).trans (AZ.frozen (p:=⟨R,0,none⟩) rl)).trans z0
 have rz16:=((hb6.frozen (p:=⟨R,1,none⟩) rl2).trans (AZ.frozen (p:=⟨R,1,none⟩) rl)).trans z1
 have rl6:=Nat.lt_of_lt_of_le rl2 hb6.size
 clear K1 r0 r1 z0 z1 rl rl1 hb6 AZ rl2
 go_wp2_with (first|(refine wp_loop_unr 3 ?_;refine Unr.step ?_;intro U hU)|(refine Unr.step ?_;intro U hU))
 try simp only [Exit.inBlock,Exit.then]
 refine bodyPost_ret (v:=.tuple #[.agg #[.pointer none,.int .i64 0],.bool false]) (by simp [results,results332,go_sem,rc06,rc16]) rfl ⟨rfl,(K6.out.set (.inr R8.out) _).set (.inr R8.out) _⟩
theorem within_2(w:World): Calls prog 161 #[.int .i64 1,.int .i64 1,.int .i64 1] w fun e w'=>e=.returned (.tuple #[])∧w=w':=by
 go_enter func161,ntmps161
 go_wp2_with (go_at_call 159;refine (need_t _).mono ?_;rintro e w9 ⟨rfl,rfl⟩)
 go_end0
 exact ⟨rfl,rfl⟩
theorem fpath_0(gp cp gs cs gl cl gi ci:Nat)(k0:2≤cp)(k1:1≤cs)(k2:1≤cl)(k3:2≤ci)(sg n:Int)(w:World)(h:Cdf gp gs gl gi sg n w): Calls prog 160 #[.agg #[.slice (some ⟨gp,0,none⟩) 2 (cp:Nat),.slice (some ⟨gs,0,none⟩) 1 (cs:Nat),.slice (some ⟨gl,0,none⟩) 1 (cl:Nat),.slice (some ⟨gi,0,none⟩) 2 (ci:Nat)],.int .i64 0] w fun e w'=>e=.returned (.agg #[.bool true,.int .i64 0,.int .i64 1])∧Below w.heap.size w w':=by
 have lgp:=h.p.lt
 have:gp<w.heap.size+1:=oM
 have:gp<w.heap.size+1+1:=oM
 have:gp<w.heap.size+1+1+1:=oM
 have:gp<w.heap.size+1+1+1+1:=oM
 have:gp<w.heap.size+1+1+1+1+1:=oM
 have lgs:=h.s.lt
 have:gs<w.heap.size+1:=oM
 have:gs<w.heap.size+1+1:=oM
 have:gs<w.heap.size+1+1+1:=oM
 have:gs<w.heap.size+1+1+1+1:=oM
 have:gs<w.heap.size+1+1+1+1+1:=oM
 have lgl:=h.l.lt
 have:gl<w.heap.size+1:=oM
 have:gl<w.heap.size+1+1:=oM
 have:gl<w.heap.size+1+1+1:=oM
 have:gl<w.heap.size+1+1+1+1:=oM
 have:gl<w.heap.size+1+1+1+1+1:=oM
 have dp0:=h.p.c 0 _ rfl
 have dp1:=h.p.c 1 _ rfl
 have dp2:=h.p.c 2 _ rfl
 have dp3:=h.p.c 3 _ rfl
 have dp4:=h.p.c 4 _ rfl
 have dp5:=h.p.c 5 _ rfl
 have ds0:=h.s.c 0 _ rfl
 have ds1:=h.s.c 1 _ rfl
 have ds2:=h.s.c 2 _ rfl
 have dl0:=h.l.c 0 _ rfl
 have dl1:=h.l.c 1 _ rfl
 have dl2:=h.l.c 2 _ rfl
 have dl3:=h.l.c 3 _ rfl
 have dl4:=h.l.c 4 _ rfl
 have dl5:=h.l.c 5 _ rfl
 have dl6:=h.l.c 6 _ rfl
 have dl7:=h.l.c 7 _ rfl
 have:(1:Int)≤(cs:Int):=oM
 have:(1:Int)≤(cl:Int):=oM
 have:¬(cs:Int)<1:=oM
 have:¬(cl:Int)<1:=oM
 go_enter func160,ntmps160
 go_wp2_with (first|(go_at_call 159;refine (need_t _).mono ?_;rintro e w9 ⟨rfl,rfl⟩)|(go_at_call 161;(with_reducible show Calls prog 161 #[.int .i64 0,.int .i64 1,.int .i64 1] _ _);refine (within_1 _).mono ?_;rintro e w9 ⟨rfl,rfl⟩)|(go_at_call 161;(with_reducible show Calls prog 161 #[.int .i64 1,.int .i64 1,.int .i64 1] _ _);refine (within_2 _).mono ?_;rintro e w9 ⟨rfl,rfl⟩)|(refine wp_loop_unr 3 ?_;refine Unr.step ?_;intro U hU)|(refine Unr.step ?_;intro U hU))
 all_goals try simp only [Exit.inBlock,Exit.then]
 all_goals exact bodyPost_ret (v:=.agg #[.bool true,.int .i64 0,.int .i64 1]) (by simp [results,results160,go_sem, *]) rfl ⟨rfl,tq4⟩
theorem fpath_1(gp cp gs cs gl cl gi ci:Nat)(k0:2≤cp)(k1:1≤cs)(k2:1≤cl)(k3:2≤ci)(sg n:Int)(w:World)(h:Cdf gp gs gl gi sg n w): Calls prog 160 #[.agg #[.slice (some ⟨gp,0,none⟩) 2 (cp:Nat),.slice (some ⟨gs,0,none⟩) 1 (cs:Nat),.slice (some ⟨gl,0,none⟩) 1 (cl:Nat),.slice (some ⟨gi,0,none⟩) 2 (ci:Nat)],.int .i64 1] w fun e w'=>e=.returned (.agg #[.bool false,.int .i64 1,.int .i64 1])∧Below w.heap.size w w':=by
 have lgp:=h.p.lt
 have:gp<w.heap.size+1:=oM
 have:gp<w.heap.size+1+1:=oM
 have:gp<w.heap.size+1+1+1:=oM
 have:gp<w.heap.size+1+1+1+1:=oM
 have:gp<w.heap.size+1+1+1+1+1:=oM
 have lgs:=h.s.lt
 have:gs<w.heap.size+1:=oM
 have:gs<w.heap.size+1+1:=oM
 have:gs<w.heap.size+1+1+1:=oM
 have:gs<w.heap.size+1+1+1+1:=oM
 have:gs<w.heap.size+1+1+1+1+1:=oM
 have lgl:=h.l.lt
 have:gl<w.heap.size+1:=oM
 have:gl<w.heap.size+1+1:=oM
 have:gl<w.heap.size+1+1+1:=oM
 have:gl<w.heap.size+1+1+1+1:=oM
 have:gl<w.heap.size+1+1+1+1+1:=oM
 have dp0:=h.p.c 0 _ rfl
 have dp1:=h.p.c 1 _ rfl
 have dp2:=h.p.c 2 _ rfl
 have dp3:=h.p.c 3 _ rfl
 have dp4:=h.p.c 4 _ rfl
 have dp5:=h.p.c 5 _ rfl
 have ds0:=h.s.c 0 _ rfl
 have ds1:=h.s.c 1 _ rfl
 have ds2:=h.s.c 2 _ rfl
 have dl0:=h.l.c 0 _ rfl
 have dl1:=h.l.c 1 _ rfl
 have dl2:=h.l.c 2 _ rfl
 have dl3:=h.l.c 3 _ rfl
 have dl4:=h.l.c 4 _ rfl
 have dl5:=h.l.c 5 _ rfl
 have dl6:=h.l.c 6 _ rfl
 have dl7:=h.l.c 7 _ rfl
 have:(1:Int)≤(cs:Int):=oM
 have:(1:Int)≤(cl:Int):=oM
 have:¬(cs:Int)<1:=oM
 have:¬(cl:Int)<1:=oM
 go_enter func160,ntmps160
 go_wp2_with (first|(go_at_call 159;refine (need_t _).mono ?_;rintro e w9 ⟨rfl,rfl⟩)|(go_at_call 161;(with_reducible show Calls prog 161 #[.int .i64 0,.int .i64 1,.int .i64 1] _ _);refine (within_1 _).mono ?_;rintro e w9 ⟨rfl,rfl⟩)|(go_at_call 161;(with_reducible show Calls prog 161 #[.int .i64 1,.int .i64 1,.int .i64 1] _ _);refine (within_2 _).mono ?_;rintro e w9 ⟨rfl,rfl⟩)|(refine wp_loop_unr 3 ?_;refine Unr.step ?_;intro U hU)|(refine Unr.step ?_;intro U hU))
 all_goals try simp only [Exit.inBlock,Exit.then]
 all_goals exact bodyPost_ret (v:=.agg #[.bool false,.int .i64 1,.int .i64 1]) (by simp [results,results160,go_sem, *]) rfl ⟨rfl,tq4⟩
theorem fsingle(gp cp gs cs gl cl gi ci:Nat)(k0:2≤cp)(k1:1≤cs)(k2:1≤cl)(k3:2≤ci)(sg n:Int)(w:World)(h:Cdf gp gs gl gi sg n w): Calls prog 282 #[.agg #[.slice (some ⟨gp,0,none⟩) 2 (cp:Nat),.slice (some ⟨gs,0,none⟩) 1 (cs:Nat),.slice (some ⟨gl,0,none⟩) 1 (cl:Nat),.slice (some ⟨gi,0,none⟩) 2 (ci:Nat)],.int .i64 1] w fun e w'=>e=.returned (.tuple #[])∧Below w.heap.size w w':=by
 have lgp:=h.p.lt
 have:gp<w.heap.size+1:=oM
 have:gp<w.heap.size+1+1:=oM
 have:gp<w.heap.size+1+1+1:=oM
 have:gp<w.heap.size+1+1+1+1:=oM
 have:gp<w.heap.size+1+1+1+1+1:=oM
 have lgs:=h.s.lt
 have:gs<w.heap.size+1:=oM
 have:gs<w.heap.size+1+1:=oM
 have:gs<w.heap.size+1+1+1:=oM
 have:gs<w.heap.size+1+1+1+1:=oM
 have:gs<w.heap.size+1+1+1+1+1:=oM
 have lgl:=h.l.lt
 have:gl<w.heap.size+1:=oM
 have:gl<w.heap.size+1+1:=oM
 have:gl<w.heap.size+1+1+1:=oM
 have:gl<w.heap.size+1+1+1+1:=oM
 have:gl<w.heap.size+1+1+1+1+1:=oM
 have dp0:=h.p.c 0 _ rfl
 have dp1:=h.p.c 1 _ rfl
 have dp2:=h.p.c 2 _ rfl
 have dp3:=h.p.c 3 _ rfl
 have dp4:=h.p.c 4 _ rfl
 have dp5:=h.p.c 5 _ rfl
 have ds0:=h.s.c 0 _ rfl
 have ds1:=h.s.c 1 _ rfl
 have ds2:=h.s.c 2 _ rfl
 have dl0:=h.l.c 0 _ rfl
 have dl1:=h.l.c 1 _ rfl
 have dl2:=h.l.c 2 _ rfl
 have dl3:=h.l.c 3 _ rfl
 have dl4:=h.l.c 4 _ rfl
 have dl5:=h.l.c 5 _ rfl
 have dl6:=h.l.c 6 _ rfl
 have dl7:=h.l.c 7 _ rfl
 have:(1:Int)≤(cs:Int):=oM
 have:(1:Int)≤(cl:Int):=oM
 have:¬(cs:Int)<1:=oM
 have:¬(cl:Int)<1:=oM
 go_enter func282,ntmps282
 go_wp2_with fail
 refine (fpath_1 gp cp gs cs gl cl gi ci k0 k1 k2 k3 sg n _ (h.below tq4)).mono ?_;rintro e w1 ⟨rfl,hb1⟩
 have s1:=hb1.size;try simp at s1
 have e0:=hb1.cl w.heap.size 2;simp [go_sem] at e0
 have e1:=hb1.cl w.heap.size 1;simp [go_sem] at e1
 have:w.heap.size<w1.heap.size:=oM
 have:w.heap.size<w1.heap.size+1:=oM
 have HB1:=bel_step (w:=w) tq4 hb1
 clear hb1
 go_wp2_with (first|(go_at_call 159;refine (need_t _).mono ?_;rintro e w9 ⟨rfl,rfl⟩)|(go_at_call 161;(with_reducible show Calls prog 161 #[.int .i64 0,.int .i64 1,.int .i64 1] _ _);refine (within_1 _).mono ?_;rintro e w9 ⟨rfl,rfl⟩)|(go_at_call 161;(with_reducible show Calls prog 161 #[.int .i64 1,.int .i64 1,.int .i64 1] _ _);refine (within_2 _).mono ?_;rintro e w9 ⟨rfl,rfl⟩)|(refine wp_loop_unr 3 ?_;refine Unr.step ?_;intro U hU)|(refine Unr.step ?_;intro U hU))
 all_goals exact bodyPost_end (v:=.tuple #[]) (by simp [results,results282,go_sem]) rfl ⟨rfl,tq4⟩
theorem fend(gp cp gs cs gl cl gi ci:Nat)(k0:2≤cp)(k1:1≤cs)(k2:1≤cl)(k3:2≤ci)(sg n:Int)(w:World)(h:Cdf gp gs gl gi sg n w): Calls prog 221 #[.agg #[.slice (some ⟨gp,0,none⟩) 2 (cp:Nat),.slice (some ⟨gs,0,none⟩) 1 (cs:Nat),.slice (some ⟨gl,0,none⟩) 1 (cl:Nat),.slice (some ⟨gi,0,none⟩) 2 (ci:Nat)],.int .i64 0] w fun e w'=>e=.returned (.int .i64 1)∧Below w.heap.size w w':=by
 have lgi:=h.i.lt
 have:gi<w.heap.size+1:=oM
 have:gi<w.heap.size+1+1:=oM
 have:gi<w.heap.size+1+1+1:=oM
 have:gi<w.heap.size+1+1+1+1:=oM
 have:gi<w.heap.size+1+1+1+1+1:=oM
 have di0:=h.i.c 0 _ rfl
 have di1:=h.i.c 1 _ rfl
 have di2:=h.i.c 2 _ rfl
 have di3:=h.i.c 3 _ rfl
 have di4:=h.i.c 4 _ rfl
 have di5:=h.i.c 5 _ rfl
 have di6:=h.i.c 6 _ rfl
 have di7:=h.i.c 7 _ rfl
 have di8:=h.i.c 8 _ rfl
 have di9:=h.i.c 9 _ rfl
 have di10:=h.i.c 10 _ rfl
 have di11:=h.i.c 11 _ rfl
 have di12:=h.i.c 12 _ rfl
 have di13:=h.i.c 13 _ rfl
 have:(1:Int)≤(cs:Int):=oM
 have:(1:Int)≤(cl:Int):=oM
 have:¬(cs:Int)<1:=oM
 have:¬(cl:Int)<1:=oM
 go_enter func221,ntmps221
 go_wp2_with (first|(go_at_call 159;refine (need_t _).mono ?_;rintro e w9 ⟨rfl,rfl⟩)|(go_at_call 161;(with_reducible show Calls prog 161 #[.int .i64 0,.int .i64 1,.int .i64 1] _ _);refine (within_1 _).mono ?_;rintro e w9 ⟨rfl,rfl⟩)|(go_at_call 161;(with_reducible show Calls prog 161 #[.int .i64 1,.int .i64 1,.int .i64 1] _ _);refine (within_2 _).mono ?_;rintro e w9 ⟨rfl,rfl⟩)|(refine wp_loop_unr 4 ?_;refine Unr.step ?_;intro U hU)|(refine Unr.step ?_;intro U hU))
 all_goals try simp only [Exit.inBlock,Exit.then]
 all_goals exact bodyPost_ret (v:=.int .i64 1) (by simp [results,results221,go_sem, *]) rfl ⟨rfl,tq4⟩
theorem finstr(gp cp gs cs gl cl gi ci:Nat)(k0:2≤cp)(k1:1≤cs)(k2:1≤cl)(k3:2≤ci)(sg n:Int)(g0:0≤sg)(g5:sg≤5)(w:World)(h:Cdf gp gs gl gi sg n w): Calls prog 223 #[.agg #[.slice (some ⟨gp,0,none⟩) 2 (cp:Nat),.slice (some ⟨gs,0,none⟩) 1 (cs:Nat),.slice (some ⟨gl,0,none⟩) 1 (cl:Nat),.slice (some ⟨gi,0,none⟩) 2 (ci:Nat)],.agg #[.int .i64 1,.int .i64 1,.int .i64 sg,.int .i64 2,.int .i64 n,.string ⟨#[]⟩,.int .i64 0],.int .i64 0,.int .i64 0,.int .i64 1,.int .i64 0] w fun e w'=>e=.returned (.int .i64 1)∧Below w.heap.size w w':=by
 have:decide (0≤sg)=true:=by simpa using g0
 have:decide (sg≤5)=true:=by simpa using g5
 go_enter func223,ntmps223
 go_wp2_with (first|(go_at_call 159;refine (need_t _).mono ?_;rintro e w9 ⟨rfl,rfl⟩)|(go_at_call 161;(with_reducible show Calls prog 161 #[.int .i64 0,.int .i64 1,.int .i64 1] _ _);refine (within_1 _).mono ?_;rintro e w9 ⟨rfl,rfl⟩)|(go_at_call 161;(with_reducible show Calls prog 161 #[.int .i64 1,.int .i64 1,.int .i64 1] _ _);refine (within_2 _).mono ?_;rintro e w9 ⟨rfl,rfl⟩)|(refine wp_loop_unr 3 ?_;refine Unr.step ?_;intro U hU)|(refine Unr.step ?_;intro U hU))
 refine (fsingle gp cp gs cs gl cl gi ci k0 k1 k2 k3 sg n _ (h.below tq4)).mono ?_;rintro e w1 ⟨rfl,hb1⟩
 have HB1:=bel_step (w:=w) tq4 hb1
 clear hb1
 go_wp2_with (first|(go_at_call 159;refine (need_t _).mono ?_;rintro e w9 ⟨rfl,rfl⟩)|(go_at_call 161;(with_reducible show Calls prog 161 #[.int .i64 0,.int .i64 1,.int .i64 1] _ _);refine (within_1 _).mono ?_;rintro e w9 ⟨rfl,rfl⟩)|(go_at_call 161;(with_reducible show Calls prog 161 #[.int .i64 1,.int .i64 1,.int .i64 1] _ _);refine (within_2 _).mono ?_;rintro e w9 ⟨rfl,rfl⟩)|(refine wp_loop_unr 3 ?_;refine Unr.step ?_;intro U hU)|(refine Unr.step ?_;intro U hU))
 all_goals try simp only [Exit.inBlock,Exit.then]
 all_goals exact bodyPost_ret (v:=.int .i64 1) (by simp [results,results223,go_sem, *]) rfl ⟨rfl,tq4⟩
end Nn
end Go.Proofs.YtjcioljdlfdnbaaGreatDoor
