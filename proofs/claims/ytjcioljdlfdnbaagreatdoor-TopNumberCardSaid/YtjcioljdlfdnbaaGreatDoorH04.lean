/- Part 4: lemmas for TopNumber; no conditions. -/
import Derived.Test.YtjcioljdlfdnbaaGreatDoorH03
import Derived.Shelf.Strings.SlTrimAscii
set_option linter.unusedVariables false
set_option linter.unusedSimpArgs false
set_option maxRecDepth 100000
set_option maxHeartbeats 2000000
open Go.Proofs.Tryz
namespace Go.Proofs.YtjcioljdlfdnbaaGreatDoor
section
open Go.RowKit
def Wd (n:Nat):Nat:=if n<4 then 0 else Lib.bitLen (n / 2)-1
theorem wd_key: ∀n:Nat,n<1024→3≤n→Wd n<9∧1≤(n-1) / 2 ^ Wd n∧(n-1) / 2 ^ Wd n≤3:=by decide +kernel
theorem wd_pos: ∀n:Nat,n<1024→4≤n→0<Wd n∧1≤Lib.bitLen (n / 2):=by decide +kernel
theorem need_any(v:Nat)(hv:v<18446744073709551616)(w:World): Calls prog 139 #[.int .u64 (v:Nat)] w fun e w'=>e=.returned (.int .i64 (Lib.bitLen v:Nat))∧w=w':=by
 go_enter func139,ntmps139
 go_wp2_with fail
 refine (Tryz.bits_Len64 (v:Int) _ oM oM).mono ?_;rintro e w1 ⟨rfl,rfl⟩
 go_wp2_with fail
 go_ret
 exact ⟨rfl,rfl⟩
theorem width_any(n:Nat)(hn:3≤n)(hn2:n<1024)(w:World): Calls prog 68 #[.int .i64 2,.int .i64 (n:Nat)] w fun e w'=>e=.returned (.int .i64 (Wd n:Nat))∧w=w':=by
 by_cases h4:n<4
 ·have e:Wd n=0:=by simp [Wd,h4]
  have k1:(n:Int)<4:=oM
  rw [e]
  go_enter func68,ntmps68
  go_wp2
  go_ret
  exact ⟨rfl,rfl⟩
 ·have e:Wd n=Lib.bitLen (n / 2)-1:=by simp [Wd,h4]
  obtain ⟨hp,hb⟩ :=wd_pos n hn2 oM
  have k1:¬(n:Int)<4:=oM
  have:(n:Int).tdiv 2=((n / 2:Nat):Int):=by rw [Int.tdiv_eq_ediv_of_nonneg (by omega)];omega
  have k3:IntKind.u64.wrap ((n / 2:Nat):Int)=((n / 2:Nat):Int):=by rw [IntKind.wrap_u64];omega
  have k4:IntKind.i64.wrap ((Lib.bitLen (n / 2):Int)-1)=(Wd n:Int):=by rw [e];have:=bitLen_le (n / 2) 9 oM oM;rw [IntWalk.i64_in _ (by omega)];omega
  have:((Lib.bitLen (n / 2):Int)-1)=(Wd n:Int):=by rw [e];omega
  have hc:=fun w=>need_any (n / 2) oM w
  have k6:wrap64 ((n / 2:Nat):Int)=((n / 2:Nat):Int):=by unfold wrap64;omega
  have k7:IntKind.u64.wrap (wrap64 ((n / 2:Nat):Int))=((n / 2:Nat):Int):=by rw [k6,k3]
  have hc:∀(X:Int) (hX:Hid (X=((n / 2:Nat):Int))) (w:World),Calls prog 139 #[.int .u64 X] w fun e w'=>e=.returned (.int .i64 (Lib.bitLen (n / 2):Nat))∧w=w':=fun X hX w=>by rw [hX.out];exact hc w
  have K7:=hid k7
  clear k3 k7 k6
  generalize n / 2=q at *
  go_enter func68,ntmps68
  go_wp2_with (first|(go_at_call 139;refine (hc _ K7 _).mono ?_;rintro e w1 ⟨rfl,rfl⟩))
  go_ret
  have:Lib.bitLen q≤64:=aux_le 64 q
  exact ⟨ret_i64 (by clear k4;unfold wrap64;omega),rfl⟩
theorem highBits_any(n:Nat)(hn:3≤n)(hn2:n<1024)(w:World): Calls prog 72 #[.int .i64 2,.int .i64 (n:Nat),.int .i64 (Wd n:Nat)] w fun e w'=>e=.returned (.int .i64 (3+(n-1) / 2 ^ Wd n:Nat))∧w=w':=by
 obtain ⟨a1,a2,a3⟩ :=wd_key n hn2 hn
 have:IntKind.i64.wrap ((n:Int)-1)=((n-1:Nat):Int):=by rw [IntWalk.i64_in _ (by omega)];omega
 have:((n:Int)-1)=((n-1:Nat):Int):=oM
 have:((n-1:Nat):Int) / 2 ^ (Wd n)=(((n-1) / 2 ^ Wd n:Nat):Int):=by simp
 generalize Wd n=d at *
 have:¬(64:Int)≤(d:Int):=oM
 have:¬(d:Int)<0:=oM
 generalize (n-1) / 2 ^ d=q at *
 go_enter func72,ntmps72
 go_wp2
 go_ret
 exact ⟨ret_i64 oM,rfl⟩
theorem u64_and_nat(a k:Nat)(ha:a<18446744073709551616)(hk:k≤64): bits .and .u64 (a:Int) ((2 ^ k-1:Nat):Int)=((a % 2 ^ k:Nat):Int):=by
 have hb:2 ^ k-1<18446744073709551616:=Nat.lt_of_lt_of_le (Nat.sub_lt (Nat.pow_pos (by decide)) (by decide)) (Nat.pow_le_pow_right (by decide) hk:2 ^ k≤2 ^ 64)
 show IntKind.u64.wrap ((BitVec.ofInt 64 (a:Int) &&& BitVec.ofInt 64 ((2 ^ k-1:Nat):Int)).toNat:Nat)=_
 rw [BitVec.toNat_and,ofInt_64 _ ha,ofInt_64 _ hb,Nat.and_two_pow_sub_one_eq_mod,IntKind.wrap_u64]
 have:=Nat.mod_le a (2 ^ k)
 omega
theorem wfield_big(x a n:Nat)(hx:x<18446744073709551616)(ha:a<33)(hn:n<33)(h1:1≤n)(w:World): Calls prog 141 #[.int .u64 (x:Nat),.int .i64 (a:Nat),.int .i64 (n:Nat)] w fun e w'=>e=.returned (.int .u64 (x / 2 ^ a % 2 ^ n:Nat))∧∃m,w'=w.drewN m:=by
 have:¬(n:Int)<1:=oM
 have:¬(64:Int)≤(a:Int):=oM
 have:¬(a:Int)≤-64:=oM
 have:¬(a:Int)<0:=oM
 have:¬(64:Int)≤(n:Int):=oM
 have:(0:Int)≤(n:Int):=oM
 have:(0:Int)≤(a:Int):=oM
 have:(a:Int)<64:=oM
 have:(n:Int)<64:=oM
 go_enter func141,ntmps141
 go_wp2
 go_quiet ((go_at_call 202;exact quiet_mine (mask_any n oM _)))
 go_wp2
 go_ret
 refine ⟨ret_u64 ?_,_,rfl⟩
 rw [bits_nat]
 exact u64_and_nat _ n (Nat.lt_of_le_of_lt (Nat.div_le_self _ _) hx) oM
def Two (w:World) (g L:Nat):Prop:=g<w.heap.size∧w.cell? ⟨g,0,none⟩=some (.int .i64 0)∧w.cell? ⟨g,1,none⟩=some (.int .i64 (L:Nat))
theorem Two.below{w w':World}{g L:Nat}(h:Two w g L)(hb:Below w.heap.size w w'): Two w' g L:=
 ⟨Nat.lt_of_lt_of_le h.1 hb.size,(hb.cell (p:=⟨g,0,none⟩) h.1).trans h.2.1,(hb.cell (p:=⟨g,1,none⟩) h.1).trans h.2.2⟩
theorem Bd.below{w w':World}{p g x n:Nat}(h:Bd w p g x n)(hb:Below w.heap.size w w'): Bd w' p g x n:=
 ⟨Nat.lt_of_lt_of_le h.hp hb.size,(hb.cell (p:=⟨p,1,Option.none⟩) h.hp).trans h.c1,(hb.frozen (p:=⟨p,0,Option.none⟩) h.hp).trans h.f0,(hb.frozen (p:=⟨p,1,Option.none⟩) h.hp).trans h.f1,fun h0=>⟨(hb.cell (p:=⟨p,0,Option.none⟩) h.hp).trans (h.none h0).1,(h.none h0).2⟩,fun h0=>by
  obtain ⟨a,b,c,d,cap,e⟩ :=h.some h0
  exact ⟨a,Nat.lt_of_lt_of_le b hb.size,(hb.cell (p:=⟨g,0,Option.none⟩) b).trans c,(hb.frozen (p:=⟨g,0,Option.none⟩) b).trans d,cap,(hb.cell (p:=⟨p,0,Option.none⟩) h.hp).trans e⟩⟩
theorem Bd.drewN{w:World}{p g x n:Nat}(h:Bd w p g x n)(m:Nat): Bd (w.drewN m) p g x n:=h.below (below_drewN qR m)
theorem Oth.of_below{w w1 w':World}{p g:Nat}(hb:Below w.heap.size w w1)(hs:w1.heap.size=w.heap.size)(h:Oth w1 w' p g): Oth w w' p g:=
 ⟨hs ▸ h.size,fun a h1 h2 h3=>(h.cell a (hs ▸ h1) h2 h3).trans (hb.cell h1),fun a h1 h2 h3=>(h.froz a (hs ▸ h1) h2 h3).trans (hb.frozen h1),fun B h1 h2 h3=>(hb.mono h3).trans (h.bel B h1 h2 (hs ▸ h3))⟩
theorem Oth.of_drewN{w w':World}{p g m:Nat}(h:Oth (w.drewN m) w' p g): Oth w w' p g:=h.of_below (below_drewN qR m) rfl
theorem right_any(g cap L n:Nat)(hL:L+1=n)(hn:n<1024)(h3:3≤n)(w:World)(h:Two w g L): Calls prog 67 #[.slice (some ⟨g,0,none⟩) 2 cap,.int .i64 (n:Nat)] w fun e w'=>e=.returned (.bool true)∧∃m,w'=w.drewN m:=by
 obtain ⟨h0,h1,h2⟩ :=h
 have:¬(n:Int)<1:=oM
 have:¬(1099511627776:Int)<(n:Int):=oM
 have:(0:Int)<(n:Int):=oM
 have:(L:Int)<(n:Int):=oM
 have:(0:Int)≤(L:Int):=oM
 go_enter func67,ntmps67
 go_wp2_with (first|(refine wp_loop_unr 4 ?_;refine Unr.step ?_;intro U hU)|(refine Unr.step ?_;intro U hU))
 go_ret
 exact ⟨rfl,0,rfl⟩
theorem nough_any(p g x n k:Nat)(w:World)(h:Bd w p g x n)(hn2:n+k≤60)(hk:k≤16)(hk1:1≤k)(hx:x<2 ^ n): Calls prog 70 #[.pointer (some ⟨p,0,none⟩),.int .i64 (k:Nat)] w fun e w'=>e=.returned (.tuple #[])∧∃g',Bd w' p g' x (n+k)∧(n=0→w.heap.size≤g')∧(0<n→g'=g)∧Oth w w' p g':=by
 have hput:=fun w h=>put_any p g x n 0 k w h hn2 (Nat.pow_pos oM) hk hk1 hx
 simp at hput
 have:(0:Int)<(k:Int):=oM
 have:min (k:Int) 64=k:=oM
 have:¬(0:Int)<0:=oM
 have:(k:Int)-k=0:=oM
 go_enter func70,ntmps70
 go_wp2_with (first|(refine wp_loop_unr 4 ?_;refine Unr.step ?_;intro U hU)|(refine Unr.step ?_;intro U hU)|(go_at_call 140;refine (hput _ h).mono ?_;rintro e w1 ⟨rfl,g',a,b,c,d⟩))
 refine bodyPost_end (v:=.tuple #[]) (by simp [results,results70,go_sem]) rfl ⟨rfl,g',a,b,c,d⟩
theorem nough_0(p:Nat)(w:World): Calls prog 70 #[.pointer (some ⟨p,0,none⟩),.int .i64 0] w fun e w'=>e=.returned (.tuple #[])∧w=w':=by
 go_enter func70,ntmps70
 go_wp2_with (first|(refine wp_loop_unr 4 ?_;refine Unr.step ?_;intro U hU)|(refine Unr.step ?_;intro U hU))
 refine bodyPost_end (v:=.tuple #[]) (by simp [results,results70,go_sem]) rfl ⟨rfl,rfl⟩
theorem number_0(p:Nat)(v:Nat)(w:World): Calls prog 69 #[.pointer (some ⟨p,0,none⟩),.int .i64 (v:Nat),.int .i64 0] w fun e w'=>e=.returned (.tuple #[])∧w=w':=by
 go_enter func69,ntmps69
 go_wp2_with fail
 refine bodyPost_end (v:=.tuple #[]) (by simp [results,results69,go_sem]) rfl ⟨rfl,rfl⟩
theorem wfield_low(v k:Nat)(hv:v<18446744073709551616)(hk:k<33)(hk1:1≤k)(w:World): Calls prog 141 #[.int .u64 (v:Nat),.int .i64 0,.int .i64 (k:Nat)] w fun e w'=>e=.returned (.int .u64 (v % 2 ^ k:Nat))∧∃m,w'=w.drewN m:=by
 have e:v / 2 ^ 0 % 2 ^ k=v % 2 ^ k:=by simp
 have h:=wfield_big v 0 k hv oM hk hk1 w
 rw [e] at h
 exact h
theorem number_any(p g x n v k:Nat)(w:World)(h:Bd w p g x n)(hn2:n+k≤60)(hv:v<1024)(hk:k≤16)(hk1:1≤k)(hx:x<2 ^ n): Calls prog 69 #[.pointer (some ⟨p,0,none⟩),.int .i64 (v:Nat),.int .i64 (k:Nat)] w fun e w'=>e=.returned (.tuple #[])∧∃g',Bd w' p g' (x+v % 2 ^ k * 2 ^ n) (n+k)∧(n=0→w.heap.size≤g')∧(0<n→g'=g)∧Oth w w' p g':=by
 have hf:=fun w=>wfield_low v k oM oM hk1 w
 have hput:=fun w h=>put_any p g x n (v % 2 ^ k) k w h hn2 (Nat.mod_lt _ (Nat.pow_pos oM)) hk hk1 hx
 generalize v % 2 ^ k=r at *
 have:(0:Int)<(k:Int):=oM
 have:IntKind.u64.wrap (v:Int)=(v:Int):=by rw [IntKind.wrap_u64];omega
 go_enter func69,ntmps69
 go_wp2_with (first|(go_at_call 141;refine (hf _).mono ?_;rintro e w1 ⟨rfl,m1,rfl⟩)|(go_at_call 140;refine (hput _ (h.drewN m1)).mono ?_;rintro e w2 ⟨rfl,g',a,b,c,d⟩))
 refine bodyPost_end (v:=.tuple #[]) (by simp [results,results69,go_sem]) rfl ⟨rfl,g',a,b,c,d.of_drewN⟩
theorem Oth.refl(w:World)(p g:Nat): Oth w w p g:=⟨qL,fun _ _ _ _=>rfl,fun _ _ _ _=>rfl,fun _ _ _ _=>qR⟩
def Puts (w w':World) (p g n x' n':Nat):Prop:=∃g',Bd w' p g' x' n'∧(g'=g∨w.heap.size≤g')∧(n=0→0<n'→w.heap.size≤g')∧(0<n→g'=g)∧(n'=0→w=w')∧Oth w w' p g'
theorem Puts.of{w w':World}{p g n x' n':Nat}(hn:0<n')(h:∃g',Bd w' p g' x' n'∧(n=0→w.heap.size≤g')∧(0<n→g'=g)∧Oth w w' p g'): Puts w w' p g n x' n':=by
 obtain ⟨g',a,b,c,d⟩ :=h
 refine ⟨g',a,?_,fun h _=>b h,c,fun h=>absurd h oM,d⟩
 rcases Nat.eq_zero_or_pos n with h|h
 ·exact .inr (b h)
 ·exact .inl (c h)
theorem Puts.none{w:World}{p g x n:Nat}(h:Bd w p g x n): Puts w w p g n x n:=⟨g,h,.inl rfl,fun h h'=>absurd h' oM,fun _=>rfl,fun _=>rfl,Oth.refl _ _ _⟩
theorem numb_tot(p g x n v k:Nat)(w:World)(h:Bd w p g x n)(hn2:n+k≤60)(hv:v<1024)(hk:k≤16)(hx:x<2 ^ n): Calls prog 69 #[.pointer (some ⟨p,0,none⟩),.int .i64 (v:Nat),.int .i64 (k:Nat)] w fun e w'=>e=.returned (.tuple #[])∧Puts w w' p g n (x+v % 2 ^ k * 2 ^ n) (n+k):=by
 rcases Nat.eq_zero_or_pos k with rfl|hk1
 ·refine (number_0 p v w).mono ?_
  rintro e w' ⟨rfl,rfl⟩
  refine ⟨rfl,?_⟩
  have e:x+v % 2 ^ 0 * 2 ^ n=x:=by simp [Nat.mod_one]
  rw [e];exact Puts.none h
 ·refine (number_any p g x n v k w h hn2 hv hk hk1 hx).mono ?_
  rintro e w' ⟨rfl,h⟩
  exact ⟨rfl,Puts.of oM h⟩
theorem nough_tot(p g x n k:Nat)(w:World)(h:Bd w p g x n)(hn2:n+k≤60)(hk:k≤16)(hx:x<2 ^ n): Calls prog 70 #[.pointer (some ⟨p,0,none⟩),.int .i64 (k:Nat)] w fun e w'=>e=.returned (.tuple #[])∧Puts w w' p g n x (n+k):=by
 rcases Nat.eq_zero_or_pos k with rfl|hk1
 ·refine (nough_0 p w).mono ?_
  rintro e w' ⟨rfl,rfl⟩
  exact ⟨rfl,Puts.none h⟩
 ·refine (nough_any p g x n k w h hn2 hk hk1 hx).mono ?_
  rintro e w' ⟨rfl,h⟩
  exact ⟨rfl,Puts.of oM h⟩
theorem bit_tot(p g x n:Nat)(w:World)(h:Bd w p g x n)(hn2:n+1≤60)(hx:x<2 ^ n): Calls prog 71 #[.pointer (some ⟨p,0,none⟩),.bool true] w fun e w'=>e=.returned (.int .i64 0)∧Puts w w' p g n (x+2 ^ n) (n+1):=by
 refine (bit_1 p g x n w h hn2 hx).mono ?_
 rintro e w' ⟨rfl,h⟩
 refine ⟨rfl,Puts.of oM ?_⟩
 simpa using h
theorem Bd.oth{w w':World}{p g x n q r:Nat}(h:Bd w p g x n)(e:Oth w w' q r)(h1:p≠q)(h2:p≠r)(h3:0<n→g≠q∧g≠r): Bd w' p g x n:=
 ⟨Nat.lt_of_lt_of_le h.hp e.size,(e.cell ⟨p,1,Option.none⟩ h.hp h1 h2).trans h.c1,(e.froz ⟨p,0,Option.none⟩ h.hp h1 h2).trans h.f0,(e.froz ⟨p,1,Option.none⟩ h.hp h1 h2).trans h.f1,fun h0=>⟨(e.cell ⟨p,0,Option.none⟩ h.hp h1 h2).trans (h.none h0).1,(h.none h0).2⟩,fun h0=>by
  obtain ⟨a,b,c,d,cap,f⟩ :=h.some h0
  obtain ⟨q1,q2⟩ :=h3 h0
  exact ⟨a,Nat.lt_of_lt_of_le b e.size,(e.cell ⟨g,0,Option.none⟩ b q1 q2).trans c,(e.froz ⟨g,0,Option.none⟩ b q1 q2).trans d,cap,(e.cell ⟨p,0,Option.none⟩ h.hp h1 h2).trans f⟩⟩
theorem Bd.new(W:World)(g:Nat): Bd (W.alloc (.cells #[.slice Option.none 0 0,.int .i64 0] 154)) W.heap.size g 0 0:=⟨by simp,by simp [go_sem],by simp [go_sem],by simp [go_sem],fun _=>⟨by simp [go_sem],rfl⟩,fun h=>absurd h oM⟩
structure TwoB (w0 w:World) (p1 g1 x1 n1 p2 g2 x2 n2:Nat):Prop where
 b1:Bd w p1 g1 x1 n1
 b2:Bd w p2 g2 x2 n2
 l1:w0.heap.size≤p1
 l2:w0.heap.size≤p2
 l3:w0.heap.size≤g1
 l4:w0.heap.size≤g2
 d:p1≠p2
 d1:0<n1→g1≠p2
 d2:0<n2→g2≠p1
 d3:0<n1→0<n2→g1≠g2
 bel:Below w0.heap.size w0 w
theorem TwoB.symm{w0 w:World}{p1 g1 x1 n1 p2 g2 x2 n2:Nat}(h:TwoB w0 w p1 g1 x1 n1 p2 g2 x2 n2): TwoB w0 w p2 g2 x2 n2 p1 g1 x1 n1:=
 ⟨h.b2,h.b1,h.l2,h.l1,h.l4,h.l3,h.d.symm,h.d2,h.d1,fun a b=>(h.d3 b a).symm,h.bel⟩
theorem TwoB.op{w0 w w':World}{p1 g1 x1 n1 p2 g2 x2 n2 x' n':Nat}(h:TwoB w0 w p1 g1 x1 n1 p2 g2 x2 n2)(hp:Puts w w' p1 g1 n1 x' n')(hn:n1≤n'): ∃g',TwoB w0 w' p1 g' x' n' p2 g2 x2 n2:=by
 obtain ⟨g',a,b,c,d,e0,e⟩ :=hp
 rcases Nat.eq_zero_or_pos n' with h0|h0
 ·obtain rfl:=e0 h0
  have hn1:n1=0:=oM
  subst hn1 h0
  obtain ⟨-,rfl⟩ :=a.none rfl
  obtain ⟨-,rfl⟩ :=h.b1.none rfl
  exact ⟨g1,h⟩
 have hs:=h.bel.size
 have s1:=h.b1.hp
 have s2:=h.b2.hp
 have dd:=h.d
 have hg:w0.heap.size≤g':=by rcases b with rfl|b;exact h.l3;omega
 have q1:g'≠p2:=by
  rcases Nat.eq_zero_or_pos n1 with h1|h1
  ·have:=c h1 h0;omega
  ·rw [d h1];exact h.d1 h1
 have q3:0<n2→g'≠g2:=fun h2=>by
  have s3:=(h.b2.some h2).2.1
  rcases Nat.eq_zero_or_pos n1 with h1|h1
  ·have:=c h1 h0;omega
  ·rw [d h1];exact h.d3 h1 h2
 exact ⟨g',a,h.b2.oth e dd.symm q1.symm (fun h2=>⟨h.d2 h2,(q3 h2).symm⟩),h.l1,h.l2,hg,h.l4,dd,fun _=>q1,h.d2,fun _=>q3,h.bel.trans (e.bel _ h.l1 hg hs)⟩
def Low (w:World) (b n:Nat):Prop:=(Wd n=0→R0 w b)∧(0<Wd n→Rw w b ((n-1) % 2 ^ Wd n * 2 ^ Wd n) (2 * Wd n))
theorem Low.below{w w':World}{b n:Nat}(h:Low w b n)(hb:Below w.heap.size w w'): Low w' b n:=⟨fun e=>(h.1 e).below hb,fun e=>(h.2 e).below hb⟩
def Hi (n:Nat):Nat:=(n-1) / 2 ^ Wd n
def Sq (w:World) (p n:Nat):Prop:=∃b C hb,p<w.heap.size∧w.cell? ⟨p,0,none⟩=some (.int .i64 2)∧w.cell? ⟨p,1,none⟩=some (.int .i64 (n:Nat))∧w.cell? ⟨p,2,none⟩=some (.int .i64 (Wd n:Nat))∧w.cell? ⟨p,3,none⟩=some (.pointer (some ⟨b,0,none⟩))∧w.cell? ⟨p,4,none⟩=some (.pointer (some ⟨C,0,none⟩))∧Low w b n∧Rw w hb (1+2 ^ (1+Hi n)) (3+Hi n)∧Ch w C hb (1+Hi n)
theorem Sq.below{w w':World}{p n:Nat}(h:Sq w p n)(hb:Below w.heap.size w w'): Sq w' p n:=by
 obtain ⟨b,C,r,a1,c0,c1,c2,c3,c4,hl,hr,hc⟩ :=h
 exact ⟨b,C,r,Nat.lt_of_lt_of_le a1 hb.size,(hb.cell (p:=⟨p,0,none⟩) a1).trans c0,(hb.cell (p:=⟨p,1,none⟩) a1).trans c1,(hb.cell (p:=⟨p,2,none⟩) a1).trans c2,(hb.cell (p:=⟨p,3,none⟩) a1).trans c3,(hb.cell (p:=⟨p,4,none⟩) a1).trans c4,hl.below hb,hr.below hb,hc.below hb⟩
theorem hi_key: ∀h:Nat,h<4→1≤h→pop (1+2 ^ (1+h))=2∧1+2 ^ (1+h)<2 ^ (3+h)∧1+2 ^ (1+h)<256:=by decide +kernel
theorem build_any(b hb n:Nat)(hn:3≤n)(hn2:n<1024)(w:World)(h1:Low w b n)(h2:Rw w hb (1+2 ^ (1+Hi n)) (3+Hi n)): Calls prog 74 #[.int .i64 2,.int .i64 (n:Nat),.pointer (some ⟨b,0,none⟩),.pointer (some ⟨hb,0,none⟩)] w fun e w'=>∃p,e=.returned (.pointer (some ⟨p,0,none⟩))∧Below w.heap.size w w'∧Sq w' p n:=by
 obtain ⟨q1,q2,q3⟩ :=wd_key n hn2 hn
 obtain ⟨r1,r2,r3⟩ :=hi_key (Hi n) (by unfold Hi;omega) (by unfold Hi;omega)
 have:Hi n<4:=by unfold Hi;omega
 have hw:=fun w=>width_any n hn hn2 w
 have hc:=fun (w:World) (h2:Rw w hb (1+2 ^ (1+Hi n)) (3+Hi n))=>cnew_any hb _ _ (1+Hi n) w h2 r3 oM oM r1 r2 oM
 have hr:=fun (w:World) (h2:Rw w hb (1+2 ^ (1+Hi n)) (3+Hi n))=>rlen_any hb _ _ w h2
 go_enter func74,ntmps74
 go_wp2_with (first|(go_at_call 68;refine (hw _).mono ?_;rintro e w1 ⟨rfl,rfl⟩))
 refine (hc _ h2).mono ?_;rintro e w1 ⟨C,rfl,hb1,hC1⟩
 have HB1:=hid hb1
 have HC1:=hid hC1
 clear hb1 hC1
 go_wp2_with (first|(go_at_call 142;refine (hr _ (h2.below HB1.out)).mono ?_;rintro e w2 ⟨rfl,rfl⟩))
 go_ret
 have ha:∀o,Below w1.heap.size w1 (w1.alloc o):=fun o=>qR.alloc qL _
 exact ⟨_,rfl,HB1.out.trans ((ha _).mono HB1.out.size),b,C,hb,by simp,by simp [go_sem],by simp [go_sem],by simp [go_sem],by simp [go_sem],by simp [go_sem],(h1.below HB1.out).below (ha _),(h2.below HB1.out).below (ha _),HC1.out.below (ha _)⟩
theorem lowRow(p g n:Nat)(w:World)(h:Bd w p g ((n-1) % 2 ^ Wd n * 2 ^ Wd n) (Wd n+Wd n)): Calls prog 75 #[.pointer (some ⟨p,0,none⟩)] w fun e w'=>∃b,e=.returned (.pointer (some ⟨b,0,none⟩))∧Below w.heap.size w w'∧Low w' b n:=by
 rcases Nat.eq_zero_or_pos (Wd n) with h0|h0
 ·have h':Bd w p g 0 0:=by rw [h0] at h;simpa [Nat.mod_one] using h
  refine (brow_0 p g w h').mono ?_
  rintro e w' ⟨b,rfl,-,hb,hr⟩
  exact ⟨b,rfl,hb,fun _=>hr,fun h=>absurd h0 oM⟩
 ·refine (brow_any p g _ _ w h oM).mono ?_
  rintro e w' ⟨b,rfl,-,hb,hr⟩
  refine ⟨b,rfl,hb,fun h=>absurd h0 oM,fun _=>?_⟩
  rw [Nat.two_mul];exact hr
theorem make_any(g cap n:Nat)(hn:3≤n)(hn2:n<1024)(w:World)(h:Two w g (n-1)): Calls prog 39 #[.slice (some ⟨g,0,none⟩) 2 cap,.int .i64 (n:Nat)] w fun e w'=>∃p,e=.returned (.tuple #[.pointer (some ⟨p,0,none⟩),.int .i64 0])∧Below w.heap.size w w'∧Sq w' p n:=by
 obtain ⟨q1,q2,q3⟩ :=wd_key n hn2 hn
 have hri:=fun w h=>right_any g cap (n-1) n oM hn2 hn w h
 have hwi:=fun w=>width_any n hn hn2 w
 have hal:∀(m:Nat) (o:Obj),Below w.heap.size w (((w.drewN m).alloc o).alloc o):=fun m o=>(((below_drewN (Below.refl _ w) m).alloc qL _).alloc sM _)
 go_enter func39,ntmps39
 go_wp2_with fail
 refine (hri _ h).mono ?_;rintro e w1 ⟨rfl,m1,rfl⟩
 have T0:TwoB w (((w.drewN m1).alloc (Obj.cells #[Value.slice none 0 0,Value.int IntKind.i64 0] 154)).alloc (Obj.cells #[Value.slice none 0 0,Value.int IntKind.i64 0] 154)) w.heap.size w.heap.size 0 0 (w.heap.size+1) (w.heap.size+1) 0 0:=⟨(Bd.new (w.drewN m1) w.heap.size).below (qR.alloc qL _),by have:=Bd.new ((w.drewN m1).alloc (Obj.cells #[Value.slice none 0 0,Value.int IntKind.i64 0] 154)) (w.heap.size+1);simpa using this,by omega,by omega,by omega,by omega,by omega,fun h=>absurd h oM,fun h=>absurd h oM,fun h=>absurd h oM,hal _ _⟩
 have H1:=(h.below (hal m1 (Obj.cells #[Value.slice none 0 0,Value.int IntKind.i64 0] 154))).2.1
 go_wp2_with (first|(go_at_call 68;refine (hwi _).mono ?_;rintro e w1 ⟨rfl,rfl⟩)|(refine wp_loop_unr 4 ?_;refine Unr.step ?_;intro U hU)|(refine Unr.step ?_;intro U hU))
 refine (numb_tot w.heap.size w.heap.size 0 0 0 (Wd n) _ T0.b1 oM oM oM oM).mono ?_;rintro e w1 ⟨rfl,hp⟩
 obtain ⟨g1,T1⟩ :=T0.op hp oM
 simp at T1
 have hH:1≤Hi n∧Hi n≤3:=⟨q2,q3⟩
 obtain ⟨v,hv⟩:∃v,n-1=v:=⟨_,rfl⟩
 obtain ⟨q,hq⟩:∃q,Hi n=q:=⟨_,rfl⟩
 obtain ⟨d,hd⟩:∃d,Wd n=d:=⟨_,rfl⟩
 obtain ⟨N3,hN3⟩:∃N3,3+q=N3:=⟨_,rfl⟩
 obtain ⟨N2,hN2⟩:∃N2,1+q+1=N2:=⟨_,rfl⟩
 have hhb:=fun w=>highBits_any n hn hn2 w
 have k1:(v:Int) / 2 ^ d=(q:Int):=by rw [←hv,←hq,←hd];simp [Hi]
 have k2:¬(64:Int)≤(d:Int):=oM
 have k3:¬(d:Int)<0:=oM
 have k4:(N3:Int)-(N2:Int)=1:=oM
 have hlr:=fun w p g h=>lowRow p g n w h
 have hbu:=fun b hb w h1 h2=>build_any b hb n hn hn2 w h1 h2
 rw [show (n-1) / 2 ^ Wd n=q from hq] at hhb
 rw [hN3] at hhb
 rw [hd] at hhb hlr T1 q1 hwi
 rw [hv] at hlr
 rw [hq] at hbu hH
 rw [hN3] at hbu
 simp only [hv] at h
 go_wp2_with fail
 refine (nough_0 _ _).mono ?_;rintro e w2 ⟨rfl,rfl⟩
 go_wp2_with fail
 refine (bit_tot (w.heap.size+1) (w.heap.size+1) 0 0 _ T1.b2 oM oM).mono ?_;rintro e w2 ⟨rfl,hp2⟩
 obtain ⟨g2,T2⟩ :=T1.symm.op hp2 oM
 simp at T2
 have H2:=(h.below T2.bel).2.2
 go_wp2_with (first|(refine Unr.step ?_;intro U hU))
 have H3:=T2.symm.b1
 refine (numb_tot w.heap.size g1 0 d v d _ T2.symm.b1 oM oM oM (Nat.pow_pos (by decide))).mono ?_;rintro e w3 ⟨rfl,hp3⟩
 obtain ⟨g3,T3⟩ :=T2.symm.op hp3 oM
 rw [Nat.zero_add] at T3
 go_wp2_with fail
 refine (nough_tot (w.heap.size+1) g2 1 1 q _ T3.b2 oM oM oM).mono ?_;rintro e w4 ⟨rfl,hp4⟩
 obtain ⟨g4,T4⟩ :=T3.symm.op hp4 oM
 have hx1:1<2 ^ (1+q):=by rw [Nat.pow_add];have:=Nat.pow_pos (n:=q) (show 0<2 by decide);omega
 go_wp2_with fail
 refine (bit_tot (w.heap.size+1) g4 1 (1+q) _ T4.b1 oM hx1).mono ?_;rintro e w5 ⟨rfl,hp5⟩
 obtain ⟨g5,T5⟩ :=T4.op hp5 oM
 rw [hN2] at T5
 have hx2:1+2 ^ (1+q)<2 ^ N2:=by rw [←hN2,Nat.pow_succ 2 (1+q)];omega
 go_wp2_with (first|(refine Unr.step ?_;intro U hU)|(go_at_call 72;refine (hhb _).mono ?_;rintro e w6 ⟨rfl,rfl⟩)|(go_at_call 73;refine (blen_any _ _ _ _ _ T5.b1).mono ?_;rintro e w6 ⟨rfl,rfl⟩))
 refine (nough_any (w.heap.size+1) g5 _ N2 1 _ T5.b1 oM oM oM hx2).mono ?_;rintro e w6 ⟨rfl,hp6⟩
 obtain ⟨g6,T6⟩ :=T5.op (Puts.of oM hp6) oM
 rw [show N2+1=N3 by omega] at T6
 go_wp2_with fail
 refine (hlr _ _ _ T6.b2).mono ?_;rintro e w7 ⟨b,rfl,hb7,hl7⟩
 go_wp2_with fail
 refine (brow_any _ _ _ _ _ (T6.b1.below hb7) oM).mono ?_;rintro e w8 ⟨hbk,rfl,-,hb8,hr8⟩
 go_wp2_with fail
 refine (hbu b hbk _ (hl7.below hb8) hr8).mono ?_;rintro e w9 ⟨p,rfl,hb9,hs9⟩
 go_wp2_with fail
 go_ret2
 exact ⟨p,rfl,T6.bel.trans ((hb7.trans ((hb8.trans (hb9.mono hb8.size)).mono hb7.size)).mono T6.bel.size),hs9⟩
def Tab (w:World):Prop:=6<w.heap.size∧w.cell? ⟨6,0,none⟩=some (.int .u8 0)∧w.cell? ⟨6,3,none⟩=some (.int .u8 2)∧w.cell? ⟨6,7,none⟩=some (.int .u8 3)∧w.cell? ⟨6,15,none⟩=some (.int .u8 4)
theorem Tab.below{w w':World}(h:Tab w)(hb:Below w.heap.size w w'): Tab w':=by
 obtain ⟨h0,h1,h2,h3,h4⟩ :=h
 exact ⟨Nat.lt_of_lt_of_le h0 hb.size,(hb.cell (p:=⟨6,0,none⟩) h0).trans h1,(hb.cell (p:=⟨6,3,none⟩) h0).trans h2,(hb.cell (p:=⟨6,7,none⟩) h0).trans h3,(hb.cell (p:=⟨6,15,none⟩) h0).trans h4⟩
theorem Tab.drewN{w:World}(h:Tab w)(m:Nat): Tab (w.drewN m):=h.below (below_drewN qR m)
theorem tz_any(x y i r:Nat)(w:World)(hx:0<x)(h1:bits .and .u64 (x:Int) (IntKind.u64.wrap (-(x:Int)))=(y:Int))(h2:IntKind.u64.wrap ((y:Int) * 285870213051353865) / 288230376151711744=(i:Int))(hi:i<64)(hr:r<256)(hc:w.cell? ⟨6,i,none⟩=some (.int .u8 (r:Nat))): Calls prog 368 #[.int .u64 (x:Nat)] w fun e w'=>e=.returned (.int .i64 (r:Nat))∧w=w':=by
 have:((x:Int)==0)=false:=by rw [beq_eq_false_iff_ne];omega
 have:(i:Int)<64:=oM
 have:(0:Int)≤(i:Int):=oM
 have:(i:Int).toNat=i:=oM
 go_enter func368,ntmps368
 go_wp2
 go_ret
 exact ⟨rfl,rfl⟩
theorem tz_odd(q:Nat)(w:World)(hq:q<4)(h1:1≤q)(h:Tab w): Calls prog 368 #[.int .u64 (1+2 ^ (1+q):Nat)] w fun e w'=>e=.returned (.int .i64 0)∧w=w':=by
 refine tz_any _ 1 0 0 w (Nat.lt_of_lt_of_le (by decide) (Nat.le_add_right 1 _)) ?_ (by decide) (by decide) (by decide) h.2.1
 clear h w
 revert q;decide +kernel
theorem tz_pow(q:Nat)(w:World)(hq:q<4)(h1:1≤q)(h:Tab w): Calls prog 368 #[.int .u64 (2 ^ (1+q):Nat)] w fun e w'=>e=.returned (.int .i64 (1+q:Nat))∧w=w':=by
 obtain rfl|rfl|rfl:q=1∨q=2∨q=3:=oM
 ·exact tz_any _ 4 3 2 w oM (by decide +kernel) (by decide) (by decide) (by decide) h.2.2.1
 ·exact tz_any _ 8 7 3 w oM (by decide +kernel) (by decide) (by decide) (by decide) h.2.2.2.1
 ·exact tz_any _ 16 15 4 w oM (by decide +kernel) (by decide) (by decide) (by decide) h.2.2.2.2
theorem select_any(q k r:Nat)(hq:q<4)(h1:1≤q)(hk:k=0∧r=0∨k=1∧r=1+q)(w:World)(h:Tab w): Calls prog 361 #[.int .u64 (1+2 ^ (1+q):Nat),.int .i64 (k:Nat)] w fun e w'=>e=.returned (.int .i64 (r:Nat))∧∃m,w'=w.drewN m:=by
 obtain ⟨x,hx⟩:∃x,1+2 ^ (1+q)=x:=⟨_,rfl⟩
 obtain ⟨y,hy⟩:∃y,2 ^ (1+q)=y:=⟨_,rfl⟩
 have ha:bits .and .u64 (x:Int) 255=(x:Int)∧bits .and .u64 (x:Int) ((x:Int)-1)=(y:Int):=by
  rw [←hx,←hy];clear hx hy h hk;revert q;decide +kernel
 have ho:∀w,Calls prog 271 #[.int .u64 (x:Nat)] w fun e w'=>e=.returned (.int .i64 2)∧w=w':=fun w=>by
  obtain ⟨r1,r2,r3⟩ :=hi_key q hq h1
  have:=ones64 x oM w
  rw [←hx,r1] at this
  rw [←hx]
  exact this
 have hz:∀w,Tab w→Calls prog 368 #[.int .u64 (x:Nat)] w fun e w'=>e=.returned (.int .i64 0)∧w=w':=fun w h=>by rw [←hx];exact tz_odd q w hq h1 h
 have hz2:∀w,Tab w→Calls prog 368 #[.int .u64 (y:Nat)] w fun e w'=>e=.returned (.int .i64 (1+q:Nat))∧w=w':=fun w h=>by rw [←hy];exact tz_pow q w hq h1 h
 obtain ⟨ha1,ha2⟩ :=ha
 have hx1:1≤x:=by rw [←hx];exact Nat.le_add_right 1 _
 have hx2:x<256:=by rw [←hx];exact (hi_key q hq h1).2.2
 rw [hx]
 clear hx hy
 rcases hk with ⟨rfl,rfl⟩|⟨rfl,rfl⟩
 ·go_enter func361,ntmps361
  go_wp2_with (first|(go_at_call 271;refine (ho _).mono ?_;rintro e w2 ⟨rfl,rfl⟩)|(go_at_call 368;refine (hz _ h).mono ?_;rintro e w2 ⟨rfl,rfl⟩)|(refine wp_scope_lab 4 ?_;intro K hK)|(first|(refine Lab.step _ rfl ?_;intro K hK)|(refine hK _ _ _ ?_;refine Lab.step _ rfl ?_;intro K hK)|simp only [jumps_goto,jumps_ret,jumps_normal]|simp only [Exit.then,Exit.inBlock,jumps_goto,jumps_ret,jumps_normal]|go_step3))
  go_ret
  exact ⟨rfl,0,rfl⟩
 ·go_enter func361,ntmps361
  go_wp2_with (first|(go_at_call 271;refine (ho _).mono ?_;rintro e w2 ⟨rfl,rfl⟩)|(go_at_call 368;refine (hz _ h).mono ?_;rintro e w2 ⟨rfl,rfl⟩;clear hz)|(refine wp_scope_lab 4 ?_;intro K hK)|(first|(refine Lab.step _ rfl ?_;intro K hK)|(refine hK _ _ _ ?_;refine Lab.step _ rfl ?_;intro K hK)|simp only [jumps_goto,jumps_ret,jumps_normal]|simp only [Exit.then,Exit.inBlock,jumps_goto,jumps_ret,jumps_normal]|go_step3))
  refine (hz2 _ h).mono ?_;rintro e w2 ⟨rfl,rfl⟩
  go_wp2_with (first|(first|(refine Lab.step _ rfl ?_;intro K hK)|(refine hK _ _ _ ?_;refine Lab.step _ rfl ?_;intro K hK)|simp only [jumps_goto,jumps_ret,jumps_normal]|simp only [Exit.then,Exit.inBlock,jumps_goto,jumps_ret,jumps_normal]|go_step3))
  go_ret
  exact ⟨ret_i64 oM,0,rfl⟩
theorem pop_bd: ∀x:Nat,x<256→pop x<9:=by decide +kernel
theorem rone_any(p b x n i m:Nat)(w:World)(h:Dr w p b)(hr:Rw w b x n)(hx:x<256)(hn:n<9)(hm:min i n=m): Calls prog 360 #[.pointer (some ⟨p,0,none⟩),.int .i64 (i:Nat)] w fun e w'=>e=.returned (.int .i64 (pop (x % 2 ^ m):Nat))∧Below w.heap.size w w':=by
 obtain ⟨G,cap,h1,h2,c0,c1,d0,d1⟩ :=h
 have:max (i:Int) 0=i:=oM
 have:min (i:Int) n=m:=oM
 have hm9:m<9:=oM
 have:(m:Int).tdiv 512=0:=by rw [Int.tdiv_eq_ediv_of_nonneg (by omega)];omega
 have:(m:Int).tdiv 64=0:=by rw [Int.tdiv_eq_ediv_of_nonneg (by omega)];omega
 have:(m:Int).tmod 64=m:=by rw [Int.tmod_eq_emod_of_nonneg (by omega)];omega
 have ho:=fun w=>ones_any x m hx hm9 w
 have hpb:pop (x % 2 ^ m)<9:=pop_bd _ (Nat.lt_of_le_of_lt (Nat.mod_le _ _) hx)
 obtain ⟨r,hr'⟩:∃r,pop (x % 2 ^ m)=r:=⟨_,rfl⟩
 rw [hr'] at ho hpb ⊢
 go_enter func360,ntmps360
 go_wp2_with (first|(go_at_call 142;refine (rlen_any b x n _ hr).mono ?_;rintro e w2 ⟨rfl,rfl⟩)|(go_at_call 147;refine (word0_any b x n _ (hr.alloc _)).mono ?_;rintro e w2 ⟨rfl,rfl⟩)|(go_at_call 208;refine (ho _).mono ?_;rintro e w2 ⟨rfl,rfl⟩))
 go_ret
 exact ⟨rfl,qR.alloc qL _⟩
theorem rrow_any(D b:Nat)(w:World)(h:Dr w D b): Calls prog 362 #[.pointer (some ⟨D,0,none⟩)] w fun e w'=>e=.returned (.pointer (some ⟨b,0,none⟩))∧w=w':=by
 obtain ⟨G,cap,h1,h2,c0,c1,d0,d1⟩ :=h
 go_enter func362,ntmps362
 go_wp2
 go_ret
 exact ⟨rfl,rfl⟩
structure Fc (w:World) (A B K D k:Nat):Prop where
 hA:A<w.heap.size
 hB:B<w.heap.size
 hK:K<w.heap.size
 cA:w.cell? ⟨A,0,none⟩=some (.func (.func 360) #[.pointer (some ⟨D,0,none⟩)] #[])
 cB:w.cell? ⟨B,0,none⟩=some (.int .i64 0)
 cK:w.cell? ⟨K,0,none⟩=some (.int .i64 (k:Nat))
theorem Fc.below{w w':World}{A B K D k:Nat}(h:Fc w A B K D k)(hb:Below w.heap.size w w'): Fc w' A B K D k:=
 ⟨Nat.lt_of_lt_of_le h.hA hb.size,Nat.lt_of_lt_of_le h.hB hb.size,Nat.lt_of_lt_of_le h.hK hb.size,(hb.cell (p:=⟨A,0,none⟩) h.hA).trans h.cA,(hb.cell (p:=⟨B,0,none⟩) h.hB).trans h.cB,(hb.cell (p:=⟨K,0,none⟩) h.hK).trans h.cK⟩
theorem found_any(A B K D b x n k:Nat)(w:World)(hF:Fc w A B K D k)(hD:Dr w D b)(hR:Rw w b x n)(hx:x<256)(hn:n<9)(hxn:x<2 ^ n)(hp:pop x=2)(hk:k<2): Calls prog 379 #[.int .i64 0,.pointer (some ⟨A,0,none⟩),.pointer (some ⟨B,0,none⟩),.pointer (some ⟨K,0,none⟩)] w fun e w'=>e=.returned (.bool true)∧Below w.heap.size w w':=by
 have hone:∀(w:World) (h:Dr w D b) (hr:Rw w b x n),Calls prog 360 #[.pointer (some ⟨D,0,none⟩),.int .i64 64] w fun e w'=>e=.returned (.int .i64 2)∧Below w.heap.size w w':=by
  intro w h hr
  have:=rone_any D b x n 64 n w h hr hx hn oM
  rw [Nat.mod_eq_of_lt hxn,hp] at this
  exact this
 have hA:=hF.cA
 have hB:=hF.cB
 have hK:=hF.cK
 have k1:(k:Int)<2:=oM
 have hone':∀(W:World) (hW:Below w.heap.size w W),Calls prog 360 #[.pointer (some ⟨D,0,none⟩),.int .i64 64] W fun e w'=>e=.returned (.int .i64 2)∧Hid (Below w.heap.size w w')∧w'.cell? ⟨K,0,none⟩=some (.int .i64 (k:Nat)):=fun W hW=>(hone W (hD.below hW) (hR.below hW)).mono fun e w' ⟨h1,h2⟩ =>⟨h1,hid (hW.trans (h2.mono hW.size)),(hF.below (hW.trans (h2.mono hW.size))).cK⟩
 clear hone
 go_enter func379,ntmps379
 go_wp2_with fail
 go_region_law ((first|(go_simp;go_at_call 360;refine (hone' _ (by first|exact qR|exact qR.drew)).mono ?_;rintro e w1 ⟨rfl,hb,e2⟩)))
 all_goals
  go_wp2_with fail
  go_ret
  exact ⟨rfl,hb.out⟩
theorem search_any(A B K D b x n k:Nat)(w:World)(hF:Fc w A B K D k)(hD:Dr w D b)(hR:Rw w b x n)(hx:x<256)(hn:n<9)(hxn:x<2 ^ n)(hp:pop x=2)(hk:k<2): Calls prog 378 #[.int .i64 1,.func (.func 379) #[] #[.pointer (some ⟨A,0,none⟩),.pointer (some ⟨B,0,none⟩),.pointer (some ⟨K,0,none⟩)]] w fun e w'=>e=.returned (.int .i64 0)∧Below w.heap.size w w':=by
 have hf:=found_any A B K D b x n k w hF hD hR hx hn hxn hp hk
 go_enter func378,ntmps378
 go_wp2_with (first|(go_at_call 379;refine hf.mono ?_;rintro e w2 ⟨rfl,hb⟩)|(refine wp_loop_unr 3 ?_;refine Unr.step ?_;intro U hU)|(refine Unr.step ?_;intro U hU))
 go_ret
 exact ⟨rfl,hb⟩
structure Fb (w0:World) (A B K D k:Nat) (w:World):Prop where
 bel:Below w0.heap.size w0 w
 fc:Fc w A B K D k
theorem Fb.next{w0 w w':World}{A B K D k:Nat}(h:Fb w0 A B K D k w)(hb:Below w.heap.size w w'): Fb w0 A B K D k w':=⟨h.bel.trans (hb.mono h.bel.size),h.fc.below hb⟩
theorem Fb.held{w0 w:World}{A B K D k:Nat}(h:Fb w0 A B K D k w): w.cell? ⟨A,0,none⟩=some (.func (.func 360) #[.pointer (some ⟨D,0,none⟩)] #[])∧w.cell? ⟨B,0,none⟩=some (.int .i64 0)∧w.cell? ⟨K,0,none⟩=some (.int .i64 (k:Nat))∧Hid (Fb w0 A B K D k w):=⟨h.fc.cA,h.fc.cB,h.fc.cK,hid h⟩
theorem cfind_any(C D b q k G1 cap1:Nat)(hq:q<4)(h1:1≤q)(hk:k<2)(w:World)(hD:Dr w D b)(hg:G1<w.heap.size)(g1:w.cell? ⟨G1,0,none⟩=some (.int .i64 0))(hc:C<w.heap.size)(c0:w.cell? ⟨C,0,none⟩=some (.pointer (some ⟨D,0,none⟩)))(hR:Rw w b (1+2 ^ (1+q)) (3+q)): Calls prog 359 #[.pointer (some ⟨C,0,none⟩),.agg #[.slice (some ⟨G1,0,none⟩) 1 cap1,.int .i64 2],.int .i64 (k:Nat),.func (.func 360) #[.pointer (some ⟨D,0,none⟩)] #[]] w fun e w'=>e=.returned (.tuple #[.int .i64 0,.int .i64 (k:Nat)])∧Below w.heap.size w w':=by
 have k0:(k:Int).tdiv 256=0:=by rw [Int.tdiv_eq_ediv_of_nonneg (by omega)];omega
 have a1:G1<w.heap.size+1:=oM
 have a2:G1<w.heap.size+1+1:=oM
 have a3:G1<w.heap.size+1+1+1:=oM
 have b1:C<w.heap.size+1:=oM
 have b2:C<w.heap.size+1+1:=oM
 have b3:C<w.heap.size+1+1+1:=oM
 obtain ⟨n3,hn3⟩:∃n3,3+q=n3:=⟨_,rfl⟩
 have k7:¬(n3:Int)<0:=oM
 obtain ⟨x,hx⟩:∃x,1+2 ^ (1+q)=x:=⟨_,rfl⟩
 have hx2:x<256:=by rw [←hx];exact (hi_key q hq h1).2.2
 rw [hn3] at hR
 have k6:((n3:Int)+64-1) / 64=1:=oM
 rw [hx] at hR
 have hlen:=fun W (hW:Below w.heap.size w W)=>rlen_any b x n3 W (hR.below hW)
 have hrow:=fun W (hW:Below w.heap.size w W)=>rrow_any D b W (hD.below hW)
 go_enter func359,ntmps359
 go_wp2_with fail
 have hB:Below w.heap.size w ((((w.alloc (Obj.cells #[Value.slice (some { block:=G1,off:=0 }) 1 cap1,Value.int IntKind.i64 2] 256)).alloc (Obj.cells #[Value.int IntKind.i64 (k:Nat)] 3)).alloc (Obj.cells #[Value.func (Fn.func 360) #[Value.pointer (some { block:=D,off:=0 })] #[]] 58)).alloc (Obj.cells #[Value.int IntKind.i64 0] 3)):=((((Below.refl _ w).alloc qL _).alloc sM _).alloc (by simp;omega) _).alloc (by simp;omega) _
 go_wp2_with (first|(go_at_call 362;refine (hrow _ hB).mono ?_;rintro e w2 ⟨rfl,rfl⟩)|(go_at_call 142;refine (hlen _ hB).mono ?_;rintro e w2 ⟨rfl,rfl⟩))
 obtain ⟨N1,hN1⟩:∃N1:Int,((n3:Int)+64-1) / 64=N1:=⟨_,rfl⟩
 rw [hN1] at k6 ⊢
 subst k6
 have hxp:x<2 ^ n3∧pop x=2:=by rw [←hx,←hn3];exact ⟨(hi_key q hq h1).2.1,(hi_key q hq h1).1⟩
 have hFc:Fc ((((w.alloc (Obj.cells #[Value.slice (some { block:=G1,off:=0 }) 1 cap1,Value.int IntKind.i64 2] 256)).alloc (Obj.cells #[Value.int IntKind.i64 (k:Nat)] 3)).alloc (Obj.cells #[Value.func (Fn.func 360) #[Value.pointer (some { block:=D,off:=0 })] #[]] 58)).alloc (Obj.cells #[Value.int IntKind.i64 0] 3)) (w.heap.size+1+1) (w.heap.size+1+1+1) (w.heap.size+1) D k:=⟨by simp,by simp,by simp,by simp [go_sem],by simp [go_sem],by simp [go_sem]⟩
 generalize ((((w.alloc (Obj.cells #[Value.slice (some { block:=G1,off:=0 }) 1 cap1,Value.int IntKind.i64 2] 256)).alloc (Obj.cells #[Value.int IntKind.i64 (k:Nat)] 3)).alloc (Obj.cells #[Value.func (Fn.func 360) #[Value.pointer (some { block:=D,off:=0 })] #[]] 58)).alloc (Obj.cells #[Value.int IntKind.i64 0] 3))=W0 at *
 have HF0:Fb w (w.heap.size+1+1) (w.heap.size+1+1+1) (w.heap.size+1) D k W0:=⟨hB,hFc⟩
 have hone:∀(W:World) (hW:Fb w (w.heap.size+1+1) (w.heap.size+1+1+1) (w.heap.size+1) D k W),Calls prog 360 #[.pointer (some ⟨D,0,none⟩),.int .i64 0] W fun e w'=>e=.returned (.int .i64 0)∧Fb w (w.heap.size+1+1) (w.heap.size+1+1+1) (w.heap.size+1) D k w':=by
  intro W hW
  have:=rone_any D b x n3 0 0 W (hD.below hW.bel) (hR.below hW.bel) hx2 oM oM
  rw [show x % 2 ^ 0=0 by simp [Nat.mod_one],show pop 0=0 by decide] at this
  exact this.mono fun e w' ⟨h1,h2⟩ =>⟨h1,hW.next h2⟩
 refine (search_any _ _ _ D b x n3 k _ hFc (hD.below hB) (hR.below hB) hx2 oM hxp.1 hxp.2 hk).mono ?_;rintro e w3 ⟨rfl,hb3⟩
 have HF3:=hid (HF0.next hb3)
 have HF3d:=hid (HF3.out.next (qR.drew))
 have z1:=HF3.out.fc.cA
 have z2:=HF3.out.fc.cB
 have z3:=HF3.out.fc.cK
 clear HF0 hB hFc hD hR hb3 hlen hrow a1 a2 a3 b1 b2 b3
 have hk2:IntKind.i64.wrap (k:Int)=k:=IntWalk.i64_in _ oM
 go_wp2_with fail
 go_region_held3 (fun w'=>w'.cell? ⟨w.heap.size+1+1,0,none⟩=some (.func (.func 360) #[.pointer (some ⟨D,0,none⟩)] #[])∧w'.cell? ⟨w.heap.size+1+1+1,0,none⟩=some (.int .i64 0)∧w'.cell? ⟨w.heap.size+1,0,none⟩=some (.int .i64 (k:Nat))∧Hid (Fb w (w.heap.size+1+1) (w.heap.size+1+1+1) (w.heap.size+1) D k w')) (first|assumption|exact Fb.held HF3.out|exact Fb.held HF3d.out|exact Fb.held (Hid.out aM))
  (first|(go_at_call 360;refine (hone _ (Hid.out (by first|exact HF3|exact HF3d|assumption))).mono ?_;rintro e w5 ⟨rfl,hb⟩;have HX:=hid hb;clear hb))
 have w0:IntKind.i64.wrap 0=0:=by decide
 go_wp2_with fail
 go_ret2
 exact ⟨tup_ii (by decide) rfl,HX.out.bel⟩
theorem one_any(C b q k r:Nat)(hq:q<4)(h1:1≤q)(hk:k=0∧r=0∨k=1∧r=1+q)(z:Nat)(w:World)(hC:Ch w C b z)(hR:Rw w b (1+2 ^ (1+q)) (3+q))(hT:Tab w): Calls prog 334 #[.pointer (some ⟨C,0,none⟩),.int .i64 (k:Nat)] w fun e w'=>e=.returned (.tuple #[.int .i64 (r:Nat),.int .i64 0])∧Below w.heap.size w w':=by
 obtain ⟨D,hD,hC'⟩ :=hC
 obtain ⟨G1,cap1,G0,cap0,a1,a2,a3,c0,c1,c2,c3,c4,g1,g0⟩ :=hC'
 have hk2:k<2:=oM
 have:decide ((2:Int)≤(k:Int))=false:=by rw [decide_eq_false_iff_not];omega
 have:decide ((k:Int)<0)=false:=by rw [decide_eq_false_iff_not];omega
 have:¬(k:Int)<0:=oM
 have:¬(2:Int)≤(k:Int):=oM
 have hcf:∀(W:World) (hW:Below w.heap.size w W),Calls prog 359 #[.pointer (some ⟨C,0,none⟩),.agg #[.slice (some ⟨G1,0,none⟩) 1 cap1,.int .i64 2],.int .i64 (k:Nat),.func (.func 360) #[.pointer (some ⟨D,0,none⟩)] #[]] W fun e w'=>e=.returned (.tuple #[.int .i64 0,.int .i64 (k:Nat)])∧Hid (Below w.heap.size w w')∧w'.cell? ⟨C,0,none⟩=some (.pointer (some ⟨D,0,none⟩)):=by
  intro W hW
  refine (cfind_any C D b q k G1 cap1 hq h1 hk2 W (hD.below hW) (Nat.lt_of_lt_of_le a2 hW.size) ((hW.cell (p:=⟨G1,0,none⟩) a2).trans g1) (Nat.lt_of_lt_of_le a1 hW.size) ((hW.cell (p:=⟨C,0,none⟩) a1).trans c0) (hR.below hW)).mono ?_
  rintro e w' ⟨h1,h2⟩
  have h3:=hW.trans (h2.mono hW.size)
  exact ⟨h1,hid h3,(h3.cell (p:=⟨C,0,none⟩) a1).trans c0⟩
 have hrow:∀W (hW:Hid (Below w.heap.size w W)),_:=fun W hW=>rrow_any D b W (hD.below hW.out)
 have hword:∀W (hW:Hid (Below w.heap.size w W)),_:=fun W hW=>word0_any b _ _ W (hR.below hW.out)
 have hsel:∀W (hW:Hid (Below w.heap.size w W)),_:=fun W hW=>select_any q k r hq h1 hk W (hT.below hW.out)
 obtain ⟨x,hx⟩:∃x,1+2 ^ (1+q)=x:=⟨_,rfl⟩
 rw [hx] at hword hsel
 have:r<5:=oM
 clear hR hT hD hx hk
 go_enter func334,ntmps334
 go_wp2_with fail
 go_region_law ((first|(go_simp;go_at_call 359;refine (hcf _ (qR.drew)).mono ?_;rintro e w1 ⟨rfl,hb,e2⟩)))
 all_goals
  go_wp2_with (first|(go_at_call 362;refine (hrow _ hb).mono ?_;rintro e w2 ⟨rfl,rfl⟩)|(go_at_call 147;refine (hword _ hb).mono ?_;rintro e w2 ⟨rfl,rfl⟩)|(go_at_call 361;refine (hsel _ hb).mono ?_;rintro e w2 ⟨rfl,m2,rfl⟩))
  go_ret2
  exact ⟨rfl,below_drewN hb.out _⟩
theorem Low.drewN{w:World}{b n:Nat}(h:Low w b n)(m:Nat): Low (w.drewN m) b n:=h.below (below_drewN qR m)
theorem lfield_0(b:Nat)(w:World)(h:R0 w b): Calls prog 304 #[.pointer (some ⟨b,0,none⟩),.int .i64 0,.int .i64 0] w fun e w'=>e=.returned (.tuple #[.int .u64 0,.int .i64 0])∧∃m,w'=w.drewN m:=by
 obtain ⟨a,c0,c1⟩ :=h
 go_enter func304,ntmps304
 go_wp2
 go_ret2
 exact ⟨rfl,0,rfl⟩
theorem lfield_any(b x n a m:Nat)(w:World)(h:Rw w b x n)(hx:x<18446744073709551616)(hn:n<33)(hm:1≤m)(ham:a+m≤n): Calls prog 304 #[.pointer (some ⟨b,0,none⟩),.int .i64 (a:Nat),.int .i64 (m:Nat)] w fun e w'=>e=.returned (.tuple #[.int .u64 (x / 2 ^ a % 2 ^ m:Nat),.int .i64 0])∧∃m,w'=w.drewN m:=by
 obtain ⟨g,cap,h1,h2,h3,h4,h5⟩ :=h
 have:¬(m:Int)<0:=oM
 have:¬(64:Int)<(m:Int):=oM
 have:¬(a:Int)<0:=oM
 have:¬(n:Int)-(m:Int)<(a:Int):=oM
 have:((m:Int)==0)=false:=by rw [beq_eq_false_iff_ne];omega
 have:(a:Int).tdiv 64=0:=by rw [Int.tdiv_eq_ediv_of_nonneg (by omega)];omega
 have:(a:Int).tmod 64=a:=by rw [Int.tmod_eq_emod_of_nonneg (by omega)];omega
 have:¬(64:Int)<(a:Int)+(m:Int):=oM
 obtain ⟨v,hv⟩:∃v,x / 2 ^ a % 2 ^ m=v:=⟨_,rfl⟩
 have hc:=fun w=>wfield_big x a m hx oM oM hm w
 rw [hv] at hc ⊢
 go_enter func304,ntmps304
 go_wp2_with (first|(go_at_call 141;refine (hc _).mono ?_;rintro e w1 ⟨rfl,m1,rfl⟩)|go_in)
 go_ret2
 exact ⟨rfl,_,rfl⟩
theorem low_any(b n i:Nat)(w:World)(h:Low w b n)(hn:3≤n)(hn2:n<1024)(hi:i<2): Calls prog 304 #[.pointer (some ⟨b,0,none⟩),.int .i64 (i * Wd n:Nat),.int .i64 (Wd n:Nat)] w fun e w'=>e=.returned (.tuple #[.int .u64 (i * ((n-1) % 2 ^ Wd n):Nat),.int .i64 0])∧∃m,w'=w.drewN m:=by
 obtain ⟨q1,-,-⟩ :=wd_key n hn2 hn
 rcases Nat.eq_zero_or_pos (Wd n) with h0|h0
 ·rw [h0]
  have:=lfield_0 b w (h.1 h0)
  rw [show i * ((n-1) % 2 ^ 0)=0 by simp [Nat.mod_one],Nat.mul_zero]
  exact this
 ·have hv:(n-1) % 2 ^ Wd n * 2 ^ Wd n<18446744073709551616:=by
   have h2:(n-1) % 2 ^ Wd n<2 ^ Wd n:=Nat.mod_lt _ (Nat.pow_pos (by decide))
   have h3:2 ^ Wd n≤2 ^ 8:=Nat.pow_le_pow_right (by decide) oM
   calc _≤2 ^ 8 * 2 ^ 8:=Nat.mul_le_mul oM h3
    _<_:=by decide
  have hw:i * Wd n+Wd n≤2 * Wd n:=by
   have:i * Wd n≤1 * Wd n:=Nat.mul_le_mul_right _ oM
   omega
  refine (lfield_any b _ _ (i * Wd n) (Wd n) w (h.2 h0) hv oM oM hw).mono ?_
  rintro e w' ⟨rfl,h⟩
  refine ⟨?_,h⟩
  have:(n-1) % 2 ^ Wd n * 2 ^ Wd n / 2 ^ (i * Wd n) % 2 ^ Wd n=i * ((n-1) % 2 ^ Wd n):=by
   obtain rfl|rfl:i=0∨i=1:=oM
   ·simp
   ·rw [Nat.one_mul,Nat.mul_div_cancel _ (Nat.pow_pos (by decide)),Nat.mod_mod,Nat.one_mul]
  rw [this]
theorem quiet_ex{P:Program}{f:FuncId}{args:Array Value}{w:World}{n:Nat}{v:Value}(h:Calls P f args (w.drewN n) fun e w'=>e=.returned v∧∃m,w'=(w.drewN n).drewN m): Calls P f args (w.drewN n) fun e w''=>e=.returned v∧∃m,w''=w.drewN m:=
 h.mono fun _ _ ⟨he,m,hm⟩ =>⟨he,n+m,by rw [hm,World.drewN_drewN]⟩
def mk (n i:Nat):Nat:=i * (n-1)
theorem or_key: ∀n:Nat,n<1024→3≤n→bits .or .i64 (((Hi n * 2 ^ Wd n:Nat)):Int) (((n-1) % 2 ^ Wd n:Nat):Int)=((n-1:Nat):Int)∧Hi n * 2 ^ Wd n<1024∧(n-1) % 2 ^ Wd n<1024:=by decide +kernel
theorem sget_0(p n:Nat)(hn:3≤n)(hn2:n<1024)(w:World)(h:Sq w p n)(hT:Tab w): Calls prog 290 #[.pointer (some ⟨p,0,none⟩),.int .i64 0] w fun e w'=>e=.returned (.int .i64 0)∧Below w.heap.size w w':=by
 obtain ⟨b,C,hb,a1,c0,c1,c2,c3,c4,hl,hr,hc⟩ :=h
 obtain ⟨q1,q2,q3⟩ :=wd_key n hn2 hn
 have hone:=one_any C hb (Hi n) 0 0 (by unfold Hi;omega) q2 (.inl ⟨rfl,rfl⟩) _ w hc hr hT
 have hlow:∀W (hW:Below w.heap.size w W),Calls prog 304 #[.pointer (some ⟨b,0,none⟩),.int .i64 0,.int .i64 (Wd n:Nat)] W fun e w'=>e=.returned (.tuple #[.int .u64 0,.int .i64 0])∧∃m,w'=W.drewN m:=fun W hW=>by
  have:=low_any b n 0 W (hl.below hW) hn hn2 oM
  simpa using this
 obtain ⟨d,hd⟩:∃d,Wd n=d:=⟨_,rfl⟩
 have k2:¬(64:Int)≤(d:Int):=oM
 have k3:¬(d:Int)<0:=oM
 rw [hd] at c2 hlow
 go_enter func290,ntmps290
 go_wp2_with fail
 refine hone.mono ?_;rintro e w1 ⟨rfl,hb1⟩
 have e0:=(hb1.cell (p:=⟨p,2,none⟩) a1).trans c2
 have e1:=(hb1.cell (p:=⟨p,3,none⟩) a1).trans c3
 have HB1:=hid hb1
 clear hb1
 go_wp2_with fail
 go_quiet ((go_at_call 304;exact quiet_ex (hlow _ (below_drewN HB1.out _))))
 have z0:IntKind.i64.wrap 0=0:=by decide
 have z1:bits .or .i64 0 0=0:=by decide
 go_wp2
 go_ret
 exact ⟨rfl,below_drewN HB1.out _⟩
theorem sget_1(p n:Nat)(hn:3≤n)(hn2:n<1024)(w:World)(h:Sq w p n)(hT:Tab w): Calls prog 290 #[.pointer (some ⟨p,0,none⟩),.int .i64 1] w fun e w'=>e=.returned (.int .i64 (n-1:Nat))∧Below w.heap.size w w':=by
 obtain ⟨b,C,hb,a1,c0,c1,c2,c3,c4,hl,hr,hc⟩ :=h
 obtain ⟨q1,q2,q3⟩ :=wd_key n hn2 hn
 obtain ⟨or1,or2,or3⟩ :=or_key n hn2 hn
 have hone:=one_any C hb (Hi n) 1 (1+Hi n) (by unfold Hi;omega) q2 (.inr ⟨rfl,rfl⟩) _ w hc hr hT
 have hlow:∀W (hW:Below w.heap.size w W),Calls prog 304 #[.pointer (some ⟨b,0,none⟩),.int .i64 (Wd n:Nat),.int .i64 (Wd n:Nat)] W fun e w'=>e=.returned (.tuple #[.int .u64 ((n-1) % 2 ^ Wd n:Nat),.int .i64 0])∧∃m,w'=W.drewN m:=fun W hW=>by
  have:=low_any b n 1 W (hl.below hW) hn hn2 oM
  rw [Nat.one_mul,Nat.one_mul] at this
  exact this
 have hH:Hi n≤3:=q3
 obtain ⟨d,hd⟩:∃d,Wd n=d:=⟨_,rfl⟩
 obtain ⟨v,hv⟩:∃v,(n-1) % 2 ^ Wd n=v:=⟨_,rfl⟩
 obtain ⟨q,hq⟩:∃q,Hi n=q:=⟨_,rfl⟩
 obtain ⟨u,hu⟩:∃u,Hi n * 2 ^ Wd n=u:=⟨_,rfl⟩
 obtain ⟨t,ht⟩:∃t,1+Hi n=t:=⟨_,rfl⟩
 obtain ⟨L,hL⟩:∃L,n-1=L:=⟨_,rfl⟩
 have k2:¬(64:Int)≤(d:Int):=oM
 have k3:¬(d:Int)<0:=oM
 have k4:(t:Int)-1=(q:Int):=oM
 have k5:(q:Int) * 2 ^ d=(u:Int):=by rw [←hu,hq,hd];simp
 rw [hu,hv] at or1
 rw [hu] at or2
 rw [hv] at or3
 rw [hL] at or1 ⊢
 rw [hv] at hlow
 rw [hd] at c2 hlow
 rw [ht] at hone
 have k6:IntKind.i64.wrap (v:Int)=v:=IntWalk.i64_in _ oM
 have k7:wrap64 (v:Int)=v:=by unfold wrap64;omega
 have k8:Hid (wrap64 (q:Int)=q):=hid (by unfold wrap64;omega)
 have k9:Hid (wrap64 (u:Int)=u):=hid (by unfold wrap64;omega)
 go_enter func290,ntmps290
 go_wp2_with fail
 refine hone.mono ?_;rintro e w1 ⟨rfl,hb1⟩
 have e0:=(hb1.cell (p:=⟨p,2,none⟩) a1).trans c2
 have e1:=(hb1.cell (p:=⟨p,3,none⟩) a1).trans c3
 have HB1:=hid hb1
 clear hb1 hl hr hc hn hq hu hd hv ht hL q2 q3
 go_wp2_with fail
 go_quiet ((go_at_call 304;exact quiet_ex (hlow _ (below_drewN HB1.out _))))
 go_wp2
 go_ret
 exact ⟨ret_i64 (by rw [k8.out,k5,k9.out];exact or1),below_drewN HB1.out _⟩
theorem sGet_0(p n:Nat)(hn:3≤n)(hn2:n<1024)(w:World)(h:Sq w p n)(hT:Tab w): Calls prog 229 #[.pointer (some ⟨p,0,none⟩),.int .i64 0] w fun e w'=>e=.returned (.tuple #[.int .i64 0,.int .i64 0])∧Below w.heap.size w w':=by
 have hg:=sget_0 p n hn hn2
 obtain ⟨b,C,hb,a1,c0,c1,c2,c3,c4,hl,hr,hc⟩ :=id h
 go_enter func229,ntmps229
 go_wp2_with (first|(go_at_call 290;refine (hg _ h hT).mono ?_;rintro e w1 ⟨rfl,hb1⟩))
 go_ret2
 exact ⟨rfl,hb1⟩
theorem sGet_1(p n:Nat)(hn:3≤n)(hn2:n<1024)(w:World)(h:Sq w p n)(hT:Tab w): Calls prog 229 #[.pointer (some ⟨p,0,none⟩),.int .i64 1] w fun e w'=>e=.returned (.tuple #[.int .i64 (n-1:Nat),.int .i64 0])∧Below w.heap.size w w':=by
 have hg:=sget_1 p n hn hn2
 obtain ⟨b,C,hb,a1,c0,c1,c2,c3,c4,hl,hr,hc⟩ :=id h
 generalize n-1=L at hg ⊢
 go_enter func229,ntmps229
 go_wp2_with (first|(go_at_call 290;refine (hg _ h hT).mono ?_;rintro e w1 ⟨rfl,hb1⟩))
 go_ret2
 exact ⟨rfl,hb1⟩
abbrev blk:ByteArray:=⟨#[32,9,10,13]⟩
structure Bare (s:ByteArray):Prop where
 l:Lib.trimLeftS s.data.toList blk.data.toList=s.data.toList
 r:Lib.trimRightS s.data.toList blk.data.toList=s.data.toList
theorem dropWhile_no(l:List UInt8)(p:UInt8→Bool)(h:∀b,l.head?=some b→p b=false): l.dropWhile p=l:=by
 cases l with
 | nil=>rfl
 | cons a l=>rw [List.dropWhile_cons_of_neg (by rw [h a rfl];simp)]
theorem Bare.of(s:ByteArray)(h0:∀b,s.data.toList.head?=some b→blk.data.toList.contains b=false)(h1:∀b,s.data.toList.getLast?=some b→blk.data.toList.contains b=false): Bare s:=by
 refine ⟨dropWhile_no _ _ h0,?_⟩
 unfold Lib.trimRightS
 rw [dropWhile_no _ _ (fun b hb=>h1 b (by rw [List.getLast?_eq_head?_reverse];exact hb)),List.reverse_reverse]
theorem h116: (prog.info? (Tryz.lays161_ren.t 116)).map (fun i=>(i.zero,i.size))=some (some (.agg (Array.replicate 256 (.bool false))),256):=by kernel_rfl
theorem h116': (prog.info? (Tryz.lays162_ren.t 116)).map (fun i=>(i.zero,i.size))=some (some (.agg (Array.replicate 256 (.bool false))),256):=by kernel_rfl
theorem blk_ascii: ∀(j:Nat) b,blk.data.toList[j]?=some b→b.toNat<128:=Go.Proofs.ascii_of_all (by decide)
theorem toList_back(s:ByteArray): (⟨s.data.toList.toArray⟩:ByteArray)=s:=by cases s;simp
theorem trimLeft_no(s:ByteArray)(w:World)(h:Bare s): Calls prog 90 #[.string s,.string blk] w fun e w'=>e=.returned (.string s)∧Below w.heap.size w w':=by
 have:=Any.strings_TrimLeft_laid Tryz.lays161 h116 s blk w (by decide) blk_ascii
 rw [h.l,toList_back] at this
 exact this
theorem trimRight_no(s:ByteArray)(w:World)(h:Bare s)(hs:s.size≤9223372036854775807): Calls prog 91 #[.string s,.string blk] w fun e w'=>e=.returned (.string s)∧Below w.heap.size w w':=by
 have:=Any.strings_TrimRight_laid Tryz.lays162 h116' s blk w hs (by decide) blk_ascii
 rw [h.r,toList_back] at this
 exact this
end
end Go.Proofs.YtjcioljdlfdnbaaGreatDoor
