/- Part 1: lemmas for TopNumber; no conditions. -/
import Derived.Test.YtjcioljdlfdnbaaGreatDoorHq
import Derived.Test.YtjcioljdlfdnbaaGreatDoorProg
import Derived.Lib.Hide
import Derived.Deep.Light
import Derived.Handy
import Derived.Laws.ComplexArith
import Derived.BigQuiet
import Derived.Deep.RegionHeld3
import Derived.Deep.AppendLies
import Derived.Deep.RegionLaw
set_option linter.unusedVariables false
set_option linter.unusedSimpArgs false
set_option maxRecDepth 100000
set_option maxHeartbeats 2000000
open Go.Proofs.Tryz
namespace Go.Proofs.YtjcioljdlfdnbaaGreatDoor
section
open Go.RowKit
def pop (x:Nat):Nat:=x % 2+x / 2 % 2+x / 4 % 2+x / 8 % 2+x / 16 % 2+x / 32 % 2+x / 64 % 2+x / 128 % 2
theorem ret_i64{a b:Int}(h:a=b): Ending.returned (.int .i64 a)=.returned (.int .i64 b):=by rw [h]
theorem ret_u64{a b:Int}(h:a=b): Ending.returned (.int .u64 a)=.returned (.int .u64 b):=by rw [h]
theorem ones64(x:Nat)(hx:x<256)(w:World): Calls prog 271 #[.int .u64 (x:Nat)] w fun e w'=>e=.returned (.int .i64 (pop x:Nat))∧w=w':=by
 go_enter func271,ntmps271
 go_wp2
 go_ret
 refine ⟨ret_i64 ?_,rfl⟩
 clear w
 revert x
 decide +kernel
theorem mask_any(n:Nat)(hn:n<64)(w:World): Calls prog 202 #[.int .i64 (n:Nat)] w fun e w'=>e=.returned (.int .u64 ((2 ^ n-1:Nat)))∧w=w':=by
 have h:(n:Int)<64:=oM
 go_enter func202,ntmps202
 go_wp2
 go_ret
 refine ⟨ret_u64 ?_,rfl⟩
 clear w h
 revert n
 decide +kernel
theorem ones_any(x n:Nat)(hx:x<256)(hn:n<9)(w:World): Calls prog 208 #[.int .u64 (x:Nat),.int .i64 (n:Nat)] w fun e w'=>e=.returned (.int .i64 (pop (x % 2 ^ n):Nat))∧w=w':=by
 have h:(n:Int)<64:=oM
 go_enter func208,ntmps208
 go_wp2
 go_ret
 refine ⟨ret_i64 ?_,rfl⟩
 clear w h
 revert n
 revert x
 decide +kernel
end
section
open Go
def jumps (J:Nat→Act→World→Prop) (Q:Exit→Act→World→Prop):Exit→Act→World→Prop
 | .goto l,a,w=>J l a w
 | e,a,w=>Q e a w
theorem wp_scope_labels{P:Program}{a:Act}{w:World}{Q:Exit→Act→World→Prop}{c:Code}(J:Nat→Nat→Act→World→Prop)(n0:Nat)(first:c.wp P (jumps (fun l a' w'=>∃m,m<n0∧J m l a' w') Q) a w)(pass:∀n l a w,J n l a w→∃rest,findLabel c l=some rest∧rest.wp P (jumps (fun l' a' w'=>∃m,m<n∧J m l' a' w') Q) a w): (Code.scope c).wp P Q a w:=by
 intro b k cs
 have hg:∀l r,findLabel c l=some r→gotoIn l (.inScope c::k)=some (.code r::.inScope c::k):=by intro l r h;simp [gotoIn,h]
 have key:∀n l a w,J n l a w→∃r e a' w',findLabel c l=some r∧Q e a' w'∧Arrives P (lone (b.at a (.code r::.inScope c::k)) cs w) b k cs e a' w':=by
  intro n
  induction n using Nat.strongRecOn with
  | _ n ih=>
   intro l a w hJ
   obtain ⟨r,hr,hw⟩ :=pass n l a w hJ
   obtain ⟨e,a₁,w₁,hq,harr⟩ :=hw b (.inScope c::k) cs
   cases e with
   | normal=>exact ⟨r,.normal,a₁,w₁,hr,hq,Steps.trans harr (.one step_inScope)⟩
   | exit id=>exact ⟨r,.exit id,a₁,w₁,hr,hq,fun k' hk=>harr k' (by simp [exitTo,hk])⟩
   | goto l'=>
    obtain ⟨m,hm,hJ'⟩ :=hq
    obtain ⟨r₂,e₂,a₂,w₂,hr₂,hq₂,harr₂⟩ :=ih m hm l' a₁ w₁ hJ'
    exact ⟨r,e₂,a₂,w₂,hr,hq₂,.of_steps (harr _ (hg l' _ hr₂)) harr₂⟩
   | ret=>exact ⟨r,_,a₁,w₁,hr,hq,harr⟩
   | panic ch=>exact ⟨r,_,a₁,w₁,hr,hq,harr⟩
   | outgrown=>exact ⟨r,_,a₁,w₁,hr,hq,harr⟩
 obtain ⟨e,a₁,w₁,hq,harr⟩ :=first b (.inScope c::k) cs
 cases e with
 | normal=>exact ⟨.normal,a₁,w₁,hq,.head step_scope (Steps.trans harr (.one step_inScope))⟩
 | exit id=>exact ⟨.exit id,a₁,w₁,hq,fun k' hk=>.head step_scope (harr k' (by simp [exitTo,hk]))⟩
 | goto l'=>
  obtain ⟨m,hm,hJ'⟩ :=hq
  obtain ⟨r₂,e₂,a₂,w₂,hr₂,hq₂,harr₂⟩ :=key m l' a₁ w₁ hJ'
  exact ⟨e₂,a₂,w₂,hq₂,.of_steps (.head step_scope (harr _ (hg l' _ hr₂))) harr₂⟩
 | ret=>exact ⟨_,a₁,w₁,hq,.of_steps (.one step_scope) harr⟩
 | panic ch=>exact ⟨_,a₁,w₁,hq,.of_steps (.one step_scope) harr⟩
 | outgrown=>exact ⟨_,a₁,w₁,hq,.of_steps (.one step_scope) harr⟩
theorem jumps_ret(J:Nat→Act→World→Prop)(Q:Exit→Act→World→Prop)(a:Act)(w:World): jumps J Q .ret a w=Q .ret a w:=rfl
theorem jumps_goto(J:Nat→Act→World→Prop)(Q:Exit→Act→World→Prop)(l:Nat)(a:Act)(w:World): jumps J Q (.goto l) a w=J l a w:=rfl
theorem jumps_normal(J:Nat→Act→World→Prop)(Q:Exit→Act→World→Prop)(a:Act)(w:World): jumps J Q .normal a w=Q .normal a w:=rfl
theorem jumps_mono{J J':Nat→Act→World→Prop}{Q:Exit→Act→World→Prop}(h:∀l a w,J l a w→J' l a w): ∀e a w,jumps J Q e a w→jumps J' Q e a w:=by
 intro e a w hj
 cases e <;> first|exact h _ _ _ hj|exact hj
theorem wp_skip_seq{P:Program}{a:Act}{w:World}{Q:Exit→Act→World→Prop}{c:Code}(h:c.wp P Q a w): (Code.skip.seq c).wp P Q a w:=wp_seq (wp_skip h)
theorem wp_scope_pass{P:Program}{a:Act}{w:World}{Q:Exit→Act→World→Prop}{c:Code}(J:Nat→Nat→Act→World→Prop)(n0:Nat)(pass:∀n l a w,J n l a w→∃rest,findLabel c l=some (Code.skip.seq rest)∧rest.wp P (jumps (fun l' a' w'=>∃m,m<n∧J m l' a' w') Q) a w)(first:(∀n l a w rest,n<n0→findLabel c l=some (Code.skip.seq rest)→J n l a w→rest.wp P (jumps (fun l a' w'=>∃m,m<n0∧J m l a' w') Q) a w)→c.wp P (jumps (fun l a' w'=>∃m,m<n0∧J m l a' w') Q) a w): (Code.scope c).wp P Q a w:=by
 refine wp_scope_labels J n0 (first fun n l a w rest hn hf hJ=>?_) (fun n l a w h=>?_)
 ·obtain ⟨r,hr,hw⟩ :=pass n l a w hJ
  rw [hf] at hr
  injection hr with hr
  injection hr with _ hr
  subst hr
  exact wp_mono hw (jumps_mono fun l a w ⟨m,hm,h⟩ =>⟨m,by omega,h⟩)
 ·obtain ⟨r,hr,hw⟩ :=pass n l a w h
  exact ⟨_,hr,wp_skip_seq hw⟩
end
section
open Go.RowKit
def exc (x:Nat):Nat→Int
 | 0=>0
 | k+1=>exc x k+((x / 2 ^ k % 2:Nat) * 2-1)
def rmin (x:Nat):Nat→Int
 | 0=>64
 | k+1=>min (rmin x k) (exc x (k+1))
def rmax (x:Nat):Nat→Int
 | 0=>-64
 | k+1=>max (rmax x k) (exc x (k+1))
theorem exc_bd(x k:Nat): -(k:Int)≤exc x k∧exc x k≤k:=by
 induction k with
 | zero=>simp [exc]
 | succ k ih=>unfold exc;omega
theorem rmin_bd(x k:Nat): -(k:Int)≤rmin x k∧rmin x k≤64:=by
 induction k with
 | zero=>simp [rmin]
 | succ k ih=>have:=exc_bd x (k+1);unfold rmin;omega
theorem rmax_bd(x k:Nat): -64≤rmax x k∧rmax x k≤k:=by
 induction k with
 | zero=>simp [rmax]
 | succ k ih=>have:=exc_bd x (k+1);unfold rmax;omega
theorem first_any(n:Nat)(hn:n≤64)(w:World): Calls prog 272 #[.int .i64 (n:Nat)] w fun e w'=>e=.returned (.int .i64 (n:Nat))∧w=w':=by
 have:max (n:Int) 0=n:=oM
 have:min (n:Int) 64=n:=oM
 go_enter func272,ntmps272
 go_wp2
 go_ret
 exact ⟨ret_i64 oM,rfl⟩
theorem bit_key(x k:Nat)(hx:x<256): bits .and .u64 ((x / 2 ^ k:Nat):Int) 1=((x / 2 ^ k % 2:Nat):Int):=by
 have h:∀y:Nat,y<256→bits .and .u64 (y:Int) 1=((y % 2:Nat):Int):=by decide +kernel
 exact h _ (Nat.lt_of_le_of_lt (Nat.div_le_self _ _) hx)
theorem bit_key'(x:Nat)(hx:x<256): bits .and .u64 (x:Int) 1=((x % 2:Nat):Int):=by
 have:=bit_key x 0 hx
 simpa using this
theorem excess_any(x n:Nat)(hx:x<256)(hn:n<9)(w:World): Calls prog 268 #[.int .u64 (x:Nat),.int .i64 (n:Nat)] w fun e w'=>e=.returned (.int .i64 (exc x n))∧w=w':=by
 go_enter func268,ntmps268
 go_wp2_with fail
 refine (ones_any x n hx hn _).mono ?_;rintro e w1 ⟨rfl,rfl⟩
 go_wp2_with fail
 refine (first_any n oM _).mono ?_;rintro e w1 ⟨rfl,rfl⟩
 go_wp2_with fail
 go_ret
 refine ⟨ret_i64 ?_,rfl⟩
 clear w
 revert n
 revert x
 decide +kernel
theorem i64_eq{a b:Int}(h:a=b): Value.int .i64 a=.int .i64 b:=by rw [h]
theorem reach_any(x n:Nat)(hx:x<256)(hn:n<9)(h0:0<n)(w:World):
  Calls prog 269 #[.int .u64 (x:Nat),.int .i64 (n:Nat)] w fun e w'=>e=.returned (.complex .f64 (floatOfInt .f64 (rmin x n)) (floatOfInt .f64 (rmax x n)))∧w=w':=by
 have:((n:Int)==0)=false:=by rw [beq_eq_false_iff_ne];omega
 go_enter func269,ntmps269
 go_wp2_with fail
 refine (first_any n oM _).mono ?_;rintro e w1 ⟨rfl,rfl⟩
 go_wp2_with fail
 go_loopg [0,5,6,7,13] n (fun g y lo hi e i wr=>∃k v:Nat,k≤n∧g=n-k∧y=.int .u64 (v:Nat)∧v<256∧Hid (x / 2 ^ k=v)∧lo=.int .i64 (rmin x k)∧hi=.int .i64 (rmax x k)∧e=.int .i64 (exc x k)∧i=.int .i64 k∧w=wr)
 case atStart=>exact ⟨0,x,by omega,rfl,rfl,hx,hid sM,rfl,rfl,rfl,rfl,rfl⟩
 case round=>
  obtain ⟨k,v,hk,rfl,rfl,hv,HV,rfl,rfl,rfl,rfl,rfl⟩ :=hrel
  by_cases hlt:k<n
  ·have hdk:decide ((k:Int)<(n:Int))=true:=by rw [decide_eq_true_eq];omega
   obtain ⟨b,hbb⟩:∃b,v % 2=b:=⟨_,rfl⟩
   have hb:=bit_key' v hv
   rw [hbb] at hb
   have:b<2:=oM
   have he:Hid (exc x (k+1)=exc x k+((b:Int) * 2-1)):=hid (by rw [exc,HV.out,hbb])
   have hm:Hid (rmin x (k+1)=min (rmin x k) (exc x k+((b:Int) * 2-1))):=hid (by rw [rmin,he.out])
   have hM:Hid (rmax x (k+1)=max (rmax x k) (exc x k+((b:Int) * 2-1))):=hid (by rw [rmax,he.out])
   have e1:=exc_bd x k
   have e2:=rmin_bd x k
   have e3:=rmax_bd x k
   obtain ⟨v2,hv2⟩:∃v2,v / 2=v2:=⟨_,rfl⟩
   have:(v:Int) / 2=(v2:Int):=oM
   have HV2:Hid (x / 2 ^ (k+1)=v2):=hid (by rw [Nat.pow_succ,←Nat.div_div_eq_div_mul,HV.out,hv2])
   have hv2':v2<256:=oM
   clear hbb hv2
   go_wp2_with fail
   all_goals
    go_roundg (n-(k+1))
    case measure=>go_light;omega
    case rel=>go_light;exact ⟨k+1,v2,by omega,rfl,by go_num,hv2',HV2,i64_eq (by rw [hm.out];omega),i64_eq (by rw [hM.out];omega),i64_eq (by rw [he.out]),by go_num,rfl⟩
  ·have hdk:decide ((k:Int)<(n:Int))=false:=by rw [decide_eq_false_iff_not];omega
   obtain rfl:k=n:=oM
   clear hk hlt
   go_wp2_with fail
   go_ret
   exact ⟨rfl,rfl⟩
def Rw (w:World) (b x n:Nat):Prop:=∃g cap:Nat,w.cell? ⟨b,0,none⟩=some (.slice (some ⟨g,0,none⟩) 1 cap)∧w.cell? ⟨b,1,none⟩=some (.int .i64 (n:Nat))∧w.cell? ⟨g,0,none⟩=some (.int .u64 (x:Nat))∧b<w.heap.size∧g<w.heap.size
theorem quiet_mine{P:Program}{f:FuncId}{args:Array Value}{w:World}{n:Nat}{v:Value}(h:Calls P f args (w.drewN n) fun e w'=>e=.returned v∧w.drewN n=w'): Calls P f args (w.drewN n) fun e w''=>e=.returned v∧∃m,w''=w.drewN m:=
 h.mono fun _ _ ⟨he,hm⟩ =>⟨he,n,hm.symm⟩
theorem ret_bool{a b:Bool}(h:a=b): Ending.returned (.bool a)=.returned (.bool b):=by rw [h]
theorem Rw.below{w w':World}{b x n:Nat}(h:Rw w b x n)(hb:Below w.heap.size w w'): Rw w' b x n:=by
 obtain ⟨g,cap,h1,h2,h3,h4,h5⟩ :=h
 exact ⟨g,cap,by rw [hb.cell (p:=⟨b,0,none⟩) h4];exact h1,by rw [hb.cell (p:=⟨b,1,none⟩) h4];exact h2,by rw [hb.cell (p:=⟨g,0,none⟩) h5];exact h3,Nat.lt_of_lt_of_le h4 hb.size,Nat.lt_of_lt_of_le h5 hb.size⟩
theorem rlen_any(b x n:Nat)(w:World)(h:Rw w b x n): Calls prog 142 #[.pointer (some ⟨b,0,none⟩)] w fun e w'=>e=.returned (.int .i64 (n:Nat))∧w=w':=by
 obtain ⟨g,cap,h1,h2,h3,h4,h5⟩ :=h
 go_enter func142,ntmps142
 go_wp2
 go_ret
 exact ⟨rfl,rfl⟩
theorem word0_any(b x n:Nat)(w:World)(h:Rw w b x n): Calls prog 147 #[.pointer (some ⟨b,0,none⟩),.int .i64 0] w fun e w'=>e=.returned (.int .u64 (x:Nat))∧w=w':=by
 obtain ⟨g,cap,h1,h2,h3,h4,h5⟩ :=h
 go_enter func147,ntmps147
 go_wp2
 go_ret
 exact ⟨rfl,rfl⟩
theorem word1_any(b x n k:Nat)(w:World)(h:Rw w b x n)(hk:1≤k): Calls prog 147 #[.pointer (some ⟨b,0,none⟩),.int .i64 (k:Nat)] w fun e w'=>e=.returned (.int .u64 0)∧w=w':=by
 obtain ⟨g,cap,h1,h2,h3,h4,h5⟩ :=h
 have:¬(k:Int)<0:=oM
 have:(1:Int)≤(k:Int):=oM
 go_enter func147,ntmps147
 go_wp2
 go_ret
 exact ⟨rfl,rfl⟩
theorem get_any(b x n i:Nat)(w:World)(h:Rw w b x n)(hx:x<256)(hi:i<n)(hn:n<9): Calls prog 251 #[.pointer (some ⟨b,0,none⟩),.int .i64 (i:Nat)] w fun e w'=>e=.returned (.bool (x / 2 ^ i % 2==1))∧w=w':=by
 obtain ⟨g,cap,h1,h2,h3,h4,h5⟩ :=h
 have hi0:(0:Int)≤(i:Int):=oM
 have hi1:(i:Int)<(n:Int):=oM
 have hi2:(i:Int)<64:=oM
 have hd:(i:Int).tdiv 64=0:=by rw [Int.tdiv_eq_ediv_of_nonneg (by omega)];omega
 have hm:(i:Int).tmod 64=i:=by rw [Int.tmod_eq_emod_of_nonneg (by omega)];omega
 obtain ⟨v,hv⟩:∃v,x / 2 ^ i=v:=⟨_,rfl⟩
 have hv2:v<256:=by rw [←hv];exact Nat.lt_of_le_of_lt (Nat.div_le_self _ _) hx
 have hb:=bit_key' v hv2
 rw [hv]
 go_enter func251,ntmps251
 go_wp2
 go_ret
 refine ⟨ret_bool ?_,rfl⟩
 have e:(x:Int) / 2 ^ i=(v:Int):=by rw [←hv];simp
 rw [e,hb]
 have:v % 2=0∨v % 2=1:=oM
 rcases this with h|h <;> rw [h] <;> rfl
theorem field_key: ∀x:Nat,x<256→∀a:Nat,a<9→∀n:Nat,n<9→bits .and .u64 (((x:Int) / 2 ^ a)) ((2 ^ n-1:Nat):Int)=((x / 2 ^ a % 2 ^ n:Nat):Int):=by decide +kernel
theorem bits_nat(x a:Nat): ((x:Int) / 2 ^ a)=((x / 2 ^ a:Nat):Int):=by simp
theorem wfield_any(x a n:Nat)(hx:x<256)(ha:a<9)(hn:n<9)(h1:1≤n)(w:World): Calls prog 141 #[.int .u64 (x:Nat),.int .i64 (a:Nat),.int .i64 (n:Nat)] w fun e w'=>e=.returned (.int .u64 (x / 2 ^ a % 2 ^ n:Nat))∧∃m,w'=w.drewN m:=by
 have:¬(n:Int)<1:=oM
 have:¬(64:Int)≤(a:Int):=oM
 have:¬(a:Int)≤-64:=oM
 have:¬(a:Int)<0:=oM
 have:¬(64:Int)≤(n:Int):=oM
 have:(0:Int)≤(n:Int):=oM
 have:(0:Int)≤(a:Int):=oM
 have:(a:Int)<64:=oM
 go_enter func141,ntmps141
 go_wp2
 go_quiet ((go_at_call 202;exact quiet_mine (mask_any n oM _)))
 go_wp2
 go_ret
 refine ⟨ret_u64 ?_,_,rfl⟩
 exact field_key x hx a ha n hn
theorem Rw.drewN{w:World}{b x n:Nat}(h:Rw w b x n)(m:Nat): Rw (w.drewN m) b x n:=by
 obtain ⟨g,cap,h1,h2,h3,h4,h5⟩ :=h
 exact ⟨g,cap,by simpa using h1,by simpa using h2,by simpa using h3,h4,h5⟩
theorem tup_ii{a b c d:Int}(h:a=c)(k:b=d): Ending.returned (.tuple #[.int .i64 a,.int .i64 b])=.returned (.tuple #[.int .i64 c,.int .i64 d]):=by rw [h,k]
theorem rfield_any(b x n a m:Nat)(w:World)(h:Rw w b x n)(hx:x<256)(hn:n<9)(hm:1≤m)(ham:a+m≤n): Calls prog 304 #[.pointer (some ⟨b,0,none⟩),.int .i64 (a:Nat),.int .i64 (m:Nat)] w fun e w'=>e=.returned (.tuple #[.int .u64 (x / 2 ^ a % 2 ^ m:Nat),.int .i64 0])∧∃m,w'=w.drewN m:=by
 obtain ⟨g,cap,h1,h2,h3,h4,h5⟩ :=h
 have:¬(m:Int)<0:=oM
 have:¬(64:Int)<(m:Int):=oM
 have:¬(a:Int)<0:=oM
 have:¬(n:Int)-(m:Int)<(a:Int):=oM
 have:((m:Int)==0)=false:=by rw [beq_eq_false_iff_ne];omega
 have:(a:Int).tdiv 64=0:=by rw [Int.tdiv_eq_ediv_of_nonneg (by omega)];omega
 have:(a:Int).tmod 64=a:=by rw [Int.tmod_eq_emod_of_nonneg (by omega)];omega
 have:¬(64:Int)<(a:Int)+(m:Int):=oM
 obtain ⟨v,hv⟩:∃v,x / 2 ^ a % 2 ^ m=v:=⟨_,rfl⟩
 have hc:=fun w=>wfield_any x a m hx oM oM hm w
 rw [hv] at hc ⊢
 go_enter func304,ntmps304
 go_wp2_with (first|(go_at_call 141;refine (hc _).mono ?_;rintro e w1 ⟨rfl,m1,rfl⟩)|go_in)
 go_ret2
 exact ⟨rfl,_,rfl⟩
theorem ends_any(b x n a t:Nat)(w:World)(h:Rw w b x n)(ha:a≤n)(hat:a≤t)(ht:t≤1000)(hn:n<9): Calls prog 266 #[.pointer (some ⟨b,0,none⟩),.int .i64 (a:Nat),.int .i64 (t:Nat)] w fun e w'=>e=.returned (.tuple #[.int .i64 (a:Nat),.int .i64 (min t n:Nat)])∧∃m,w'=w.drewN m:=by
 obtain ⟨g,cap,h1,h2,h3,h4,h5⟩ :=h
 have:max (a:Int) 0=a:=oM
 have:min (a:Int) n=a:=oM
 have:max (t:Int) a=t:=oM
 obtain ⟨v,hv⟩:∃v,min t n=v:=⟨_,rfl⟩
 have:min (t:Int) n=v:=oM
 rw [hv]
 go_enter func266,ntmps266
 go_wp2
 all_goals
  go_ret2
  exact ⟨tup_ii oM oM,0,rfl⟩
theorem piece_any(b x n a t v m:Nat)(w:World)(h:Rw w b x n)(hx:x<256)(hn:n<9)(hm:a+m=t)(hm1:1≤m)(ht:t≤n)(hv:x / 2 ^ a % 2 ^ m=v): Calls prog 267 #[.pointer (some ⟨b,0,none⟩),.int .i64 (a:Nat),.int .i64 (t:Nat)] w fun e w'=>e=.returned (.tuple #[.int .u64 (v:Nat),.int .i64 (m:Nat)])∧∃m,w'=w.drewN m:=by
 have:(t:Int)-(a:Int)=m:=oM
 have:min (64:Int) m=m:=oM
 have hc:=fun w h=>rfield_any b x n a m w h hx hn hm1 oM
 rw [hv] at hc
 go_enter func267,ntmps267
 go_wp2_with (first|(go_at_call 304;refine (hc _ h).mono ?_;rintro e w1 ⟨rfl,m1,rfl⟩)|go_in)
 all_goals first
  | (exfalso;omega)
  | (go_ret2;exact ⟨rfl,_,rfl⟩)
theorem pexcess_any(b x n a t u v m:Nat)(w:World)(h:Rw w b x n)(hx:x<256)(hn:n<9)(hu:min t n=u)(hat:a≤t)(ht:t≤1000)(hm:a+m=u)(hm1:1≤m)(hv:x / 2 ^ a % 2 ^ m=v)(hv2:v<256): Calls prog 204 #[.pointer (some ⟨b,0,none⟩),.int .i64 (a:Nat),.int .i64 (t:Nat)] w fun e w'=>e=.returned (.int .i64 (exc v m))∧∃m,w'=w.drewN m:=by
 have hends:=fun w h=>ends_any b x n a t w h oM hat ht hn
 rw [hu] at hends
 have hb:=exc_bd v m
 have:(a:Int)+m=u:=oM
 have:decide ((a:Int)<(u:Int))=true:=by rw [decide_eq_true_eq];omega
 have:decide ((u:Int)<(u:Int))=false:=by rw [decide_eq_false_iff_not];omega
 go_enter func204,ntmps204
 go_wp2_with fail
 refine (hends _ h).mono ?_;rintro e w1 ⟨rfl,m1,rfl⟩
 go_wp2_with fail
 go_loopg [1,7] 1 (fun g f e wr=>((g=1∧f=.int .i64 (a:Nat)∧e=.int .i64 0)∨(g=0∧f=.int .i64 (u:Nat)∧e=.int .i64 (exc v m)))∧∃m,wr=w.drewN m)
 case atStart=>exact ⟨.inl ⟨rfl,rfl,rfl⟩,_,rfl⟩
 case round=>
  obtain ⟨⟨rfl,rfl,rfl⟩|⟨rfl,rfl,rfl⟩,m2,rfl⟩ :=hrel
  ·go_wp2_with fail
   refine (piece_any b x n a u v m _ (h.drewN _) hx hn hm hm1 oM hv).mono ?_;rintro e w1 ⟨rfl,m3,rfl⟩
   go_wp2_with fail
   refine (excess_any v m hv2 oM _).mono ?_;rintro e w1 ⟨rfl,rfl⟩
   go_wp2_with fail
   go_roundg 0
   case measure=>go_light;omega
   case rel=>go_light;exact ⟨.inr ⟨rfl,by go_num,by go_num⟩,_,rfl⟩
  ·go_wp2_with fail
   go_ret
   exact ⟨rfl,_,rfl⟩
theorem preach_any(b n t:Nat)(w:World)(h:Rw w b 3 4)(ht:t≤4)(ht1:1≤t): Calls prog 205 #[.pointer (some ⟨b,0,none⟩),.int .i64 0,.int .i64 (t:Nat)] w fun e w'=>e=.returned (.complex .f64 (floatOfInt .f64 (rmin (3 % 2 ^ t) t)) (floatOfInt .f64 (rmax (3 % 2 ^ t) t)))∧∃m,w'=w.drewN m:=by
 obtain ⟨v,hv⟩:∃v,3 % 2 ^ t=v:=⟨_,rfl⟩
 have hv2:v<256:=by rw [←hv];exact Nat.lt_of_le_of_lt (Nat.mod_le _ _) (by decide)
 have hends:=fun w h=>ends_any b 3 4 0 t w h oM oM oM oM
 have hu:min t 4=t:=oM
 rw [hu] at hends
 have hp:=fun w h=>piece_any b 3 4 0 t v t w h oM oM oM ht1 ht (by simpa using hv)
 have hb:=exc_bd v t
 have:((0:Int)==(t:Int))=false:=by rw [beq_eq_false_iff_ne];omega
 have:decide ((t:Int)<(t:Int))=false:=by rw [decide_eq_false_iff_not];omega
 rw [hv]
 go_enter func205,ntmps205
 go_wp2_with fail
 refine (hends _ h).mono ?_;rintro e w1 ⟨rfl,m1,rfl⟩
 go_wp2_with fail
 refine (hp _ (h.drewN _)).mono ?_;rintro e w1 ⟨rfl,m3,rfl⟩
 go_wp2_with fail
 refine (reach_any v t hv2 oM oM _).mono ?_;rintro e w1 ⟨rfl,rfl⟩
 go_wp2_with fail
 refine (excess_any v t hv2 oM _).mono ?_;rintro e w1 ⟨rfl,rfl⟩
 go_wp2_with fail
 go_loopg [1,9] 1 (fun g f o wr=>f=.int .i64 (t:Nat)∧o=.complex .f64 (floatOfInt .f64 (rmin v t)) (floatOfInt .f64 (rmax v t))∧∃m,wr=w.drewN m)
 case atStart=>exact ⟨rfl,rfl,_,rfl⟩
 case round=>
  obtain ⟨rfl,rfl,m2,rfl⟩ :=hrel
  go_wp2_with fail
  go_ret
  exact ⟨rfl,_,rfl⟩
theorem find_any(x n:Nat)(d:Int)(hx:x<256)(hn:n<9)(hd:-100≤d∧d≤100)(w:World)(r:Nat)(hr1:1≤r)(hr:r≤n)(he:exc x r=d)(hne:∀k,1≤k→k<r→exc x k≠d):
  Calls prog 364 #[.int .u64 (x:Nat),.int .i64 (n:Nat),.int .i64 d] w fun e w'=>e=.returned (.int .i64 (r:Nat))∧w=w':=by
 have HE:Hid (exc x r=d):=hid he
 have HN:Hid (∀k,1≤k→k<r→exc x k≠d):=hid hne
 clear he hne
 go_enter func364,ntmps364
 go_wp2
 refine wp_scope_pass (fun m l a w'=>l=0∧w=w'∧∃k:Nat,m=n-k∧k<r∧(∃u3 u4 u5 u6 u9 u10 u11 u12 u13 u14 u15 u16 u17 u18 u19 u20 u21 u22 u23 u24 u25 u26 u27 u28:Value,a={ tmps:=#[.int .u64 (x:Nat),.int .i64 (n:Nat),.int .i64 d,u3,u4,u5,u6,.int .i64 (k:Nat),.int .i64 (exc x k),u9,u10,u11,u12,u13,u14,u15,u16,u17,u18,u19,u20,u21,u22,u23,u24,u25,u26,u27,u28],defers:=[] })) (n+1) ?_ ?_
 ·rintro m l a w' ⟨rfl,rfl,k,rfl,hk,hJ⟩
  obtain ⟨u3,u4,u5,u6,u9,u10,u11,u12,u13,u14,u15,u16,u17,u18,u19,u20,u21,u22,u23,u24,u25,u26,u27,u28,rfl⟩ :=hJ
  refine ⟨_,rfl,?_⟩
  have:((k:Int)==(n:Int))=false:=by rw [beq_eq_false_iff_ne];omega
  obtain ⟨v,hv⟩:∃v,x / 2 ^ k=v:=⟨_,rfl⟩
  have hv2:v<256:=by rw [←hv];exact Nat.lt_of_le_of_lt (Nat.div_le_self _ _) hx
  have:(x:Int) / 2 ^ k=(v:Int):=by rw [←hv];simp
  obtain ⟨b,hbb⟩:∃b,v % 2=b:=⟨_,rfl⟩
  have hb:=bit_key' v hv2
  rw [hbb] at hb
  have:b<2:=oM
  have e1:=exc_bd x k
  have HX:Hid (exc x (k+1)=exc x k+((b:Int) * 2-1)):=hid (by rw [exc,hv,hbb])
  clear hv hbb
  by_cases hlast:k+1=r
  ·have hde:(exc x k+((b:Int) * 2-1) != d)=false:=by rw [bne_eq_false_iff_eq,←HX.out,hlast];exact HE.out
   go_wp2_with fail
   rw [jumps_ret]
   go_ret
   exact ⟨ret_i64 oM,rfl⟩
  ·have hde:(exc x k+((b:Int) * 2-1) != d)=true:=by rw [bne_iff_ne,←HX.out];exact HN.out (k+1) oM oM
   go_wp2_with fail
   go_step3
   rw [←HX.out]
   exact ⟨n-(k+1),by omega,rfl,rfl,k+1,rfl,by omega,_,_,_,_,_,_,_,_,_,_,_,_,_,_,_,_,_,_,_,_,_,_,_,_,rfl⟩
 ·intro hin
  go_wp2_with fail
  refine (first_any n oM _).mono ?_;rintro e w1 ⟨rfl,rfl⟩
  go_wp2_with fail
  go_step3
  rename_i hK
  exact hK _ _ <| hin n 0 _ _ _ oM rfl ⟨rfl,rfl,0,rfl,by omega,_,_,_,_,_,_,_,_,_,_,_,_,_,_,_,_,_,_,_,_,_,_,_,_,rfl⟩
end
section
open Go.RowKit
theorem pforth_any(b:Nat)(w:World)(h:Rw w b 3 4): Calls prog 336 #[.pointer (some ⟨b,0,none⟩),.int .i64 1,.int .i64 512,.int .i64 0] w fun e w'=>e=.returned (.int .i64 2)∧∃m,w'=w.drewN m:=by
 have hends:=fun w h=>ends_any b 3 4 1 512 w h oM oM oM oM
 have hp:=fun w h=>piece_any b 3 4 1 4 1 3 w h oM oM oM oM oM (by decide)
 have hne1:∀k,1≤k→k<2→exc 1 k≠0:=by
  intro k h1 h2
  obtain rfl:k=1:=oM
  decide
 have hf:=fun w=>find_any 1 3 0 oM oM oM w 2 oM oM (by decide) hne1
 go_enter func336,ntmps336
 go_wp2
 go_step3
 go_wp2_with fail
 refine (hends _ h).mono ?_;rintro e w1 ⟨rfl,m1,rfl⟩
 go_wp2_with fail
 go_step3
 go_wp2_with fail
 refine (hp _ (h.drewN _)).mono ?_;rintro e w1 ⟨rfl,m2,rfl⟩
 go_wp2_with (first|(go_at_call 364;refine (hf _).mono ?_;rintro e w1 ⟨rfl,rfl⟩)|(go_at_call 363;go_in))
 rw [Exit.noGoto_ret]
 go_ret
 exact ⟨rfl,_,rfl⟩
theorem reverse_1(w:World): Calls prog 380 #[.int .u64 1] w fun e w'=>e=.returned (.int .u64 9223372036854775808)∧w=w':=by
 go_enter func380,ntmps380
 go_wp2
 go_ret
 exact ⟨ret_u64 (by decide +kernel),rfl⟩
theorem field_top(w:World): Calls prog 141 #[.int .u64 9223372036854775808,.int .i64 63,.int .i64 1] w fun e w'=>e=.returned (.int .u64 1)∧∃m,w'=w.drewN m:=by
 go_enter func141,ntmps141
 go_wp2
 go_quiet ((go_at_call 202;exact quiet_mine (mask_any 1 oM _)))
 go_wp2
 go_ret
 exact ⟨ret_u64 (by decide +kernel),_,rfl⟩
theorem turned_any(w:World): Calls prog 365 #[.int .u64 1,.int .i64 1] w fun e w'=>e=.returned (.int .u64 1)∧∃m,w'=w.drewN m:=by
 go_enter func365,ntmps365
 go_wp2_with fail
 refine (reverse_1 _).mono ?_;rintro e w1 ⟨rfl,rfl⟩
 go_wp2_with fail
 refine (field_top _).mono ?_;rintro e w1 ⟨rfl,m1,rfl⟩
 go_wp2_with fail
 go_ret
 exact ⟨rfl,_,rfl⟩
theorem pback_any(b:Nat)(w:World)(h:Rw w b 3 4): Calls prog 339 #[.pointer (some ⟨b,0,none⟩),.int .i64 0,.int .i64 1,.int .i64 1] w fun e w'=>e=.returned (.int .i64 0)∧∃m,w'=w.drewN m:=by
 have hends:=fun w h=>ends_any b 3 4 0 1 w h oM oM oM oM
 have hp:=fun w h=>rfield_any b 3 4 0 1 w h oM oM oM oM
 have hf:=fun w=>find_any 1 1 1 oM oM oM w 1 oM oM (by decide) (fun k h1 h2=>oM)
 go_enter func339,ntmps339
 go_wp2
 go_step3
 go_wp2_with fail
 refine (hends _ h).mono ?_;rintro e w1 ⟨rfl,m1,rfl⟩
 go_wp2_with fail
 go_step3
 go_wp2_with fail
 refine (hp _ (h.drewN _)).mono ?_;rintro e w1 ⟨rfl,m2,rfl⟩
 go_wp2_with (first|(go_at_call 364;refine (hf _).mono ?_;rintro e w1 ⟨rfl,rfl⟩)|(go_at_call 363;go_in)|(go_at_call 365;refine (turned_any _).mono ?_;rintro e w1 ⟨rfl,m3,rfl⟩))
 rw [Exit.noGoto_ret]
 go_ret
 exact ⟨rfl,_,rfl⟩
theorem run_store_complex{P:Program}{w:World}{a:Addr}{m:Mode}(k:FloatKind)(x y:Nat): (store a (.complex k x y) m).run P w=stored P w a (.complex k x y) m:=run_store P w a _ m rfl
attribute [local go_sem] run_store_complex
theorem below_drewN{B:Nat}{w w':World}(h:Below B w w')(n:Nat): Below B w (w'.drewN n):=⟨h.os,h.tape,h.output,h.size,h.block⟩
theorem Rw.alloc{w:World}{b x n:Nat}(h:Rw w b x n)(o:Obj): Rw (w.alloc o) b x n:=h.below ((Below.refl _ w).alloc qL o)
theorem fl0: floatOfInt .f64 0=0:=by decide +kernel
theorem fl2: floatOfInt .f64 2=4611686018427387904:=by decide +kernel
theorem fl1: floatOfInt .f64 1=4607182418800017408:=by decide +kernel
theorem preach4(b:Nat)(w:World)(h:Rw w b 3 4): Calls prog 205 #[.pointer (some ⟨b,0,none⟩),.int .i64 0,.int .i64 4] w fun e w'=>e=.returned (.complex .f64 0 4611686018427387904)∧∃m,w'=w.drewN m:=by
 have:=preach_any b 4 4 w h oM oM
 rw [show rmin (3 % 2 ^ 4) 4=0 by decide,show rmax (3 % 2 ^ 4) 4=2 by decide,fl0,fl2] at this
 exact this
theorem preach3(b:Nat)(w:World)(h:Rw w b 3 4): Calls prog 205 #[.pointer (some ⟨b,0,none⟩),.int .i64 0,.int .i64 3] w fun e w'=>e=.returned (.complex .f64 4607182418800017408 4611686018427387904)∧∃m,w'=w.drewN m:=by
 have:=preach_any b 4 3 w h oM oM
 rw [show rmin (3 % 2 ^ 3) 3=1 by decide,show rmax (3 % 2 ^ 3) 3=2 by decide,fl1,fl2] at this
 exact this
theorem pexcess4(b:Nat)(w:World)(h:Rw w b 3 4): Calls prog 204 #[.pointer (some ⟨b,0,none⟩),.int .i64 0,.int .i64 4] w fun e w'=>e=.returned (.int .i64 0)∧∃m,w'=w.drewN m:=
 pexcess_any b 3 4 0 4 4 3 4 w h oM oM oM oM oM oM oM (by decide) oM
theorem min_1(w:World): (Builtin.min_ #[252,252] 252 #[.float .f64 0,.float .f64 4607182418800017408]).run prog w=.ok (.float .f64 0) w:=by
 have h:FloatKind.f64.format.order 0 4607182418800017408=some .lt:=by decide +kernel
 simp [Builtin.min_,Builtin.min2,h]
theorem max_1(w:World): (Builtin.max_ #[252,252] 252 #[.float .f64 0,.float .f64 4611686018427387904]).run prog w=.ok (.float .f64 4611686018427387904) w:=by
 have h:FloatKind.f64.format.order 0 4611686018427387904=some .lt:=by decide +kernel
 simp [Builtin.max_,Builtin.max2,h]
theorem both_1(w:World): Calls prog 206 #[.complex .f64 0 0,.complex .f64 4607182418800017408 4611686018427387904] w fun e w'=>e=.returned (.complex .f64 0 4611686018427387904)∧w=w':=by
 have hm:=min_1
 have hM:=max_1
 go_enter func206,ntmps206
 go_wp2
 go_ret
 exact ⟨rfl,rfl⟩
theorem leaf_any(b:Nat)(w:World)(h:Rw w b 3 4): Calls prog 144 #[.pointer (some ⟨b,0,none⟩),.int .i64 0] w fun e w'=>e=.returned (.agg #[.int .i64 0,.complex .f64 0 4611686018427387904,.complex .f64 0 4611686018427387904])∧Below w.heap.size w w':=by
 go_enter func144,ntmps144
 go_wp2_with fail
 refine (rlen_any b 3 4 _ (h.alloc _)).mono ?_;rintro e w1 ⟨rfl,rfl⟩
 go_wp2_with fail
 refine (pexcess4 b _ (h.alloc _)).mono ?_;rintro e w1 ⟨rfl,m1,rfl⟩
 go_wp2_with fail
 refine (preach4 b _ ((h.alloc _).drewN _)).mono ?_;rintro e w1 ⟨rfl,m2,rfl⟩
 go_wp2_with fail
 refine (preach3 b _ (h.below ((below_drewN ((Below.refl _ w).alloc qL _) _).alloc sM _))).mono ?_;rintro e w1 ⟨rfl,m3,rfl⟩
 go_wp2_with fail
 refine (both_1 _).mono ?_;rintro e w1 ⟨rfl,rfl⟩
 go_wp2_with fail
 exact bodyPost_ret (v:=.agg #[.int .i64 0,.complex .f64 0 4611686018427387904,.complex .f64 0 4611686018427387904]) (by simp [results,results144,go_sem]) rfl ⟨rfl,((((below_drewN ((below_drewN ((Below.refl _ w).alloc qL _) _).alloc sM _) _).setCell sM _).setCell sM _).setCell sM _).setCell sM _⟩
end
section
open Go.RowKit
attribute [local go_sem] run_store_complex
theorem info223: (prog.info? 249).map (fun i=>(i.zero,i.size,i.bytes))=some (some (.agg #[.int .i64 0,.complex .f64 0 0,.complex .f64 0 0]),3,40):=by kernel_rfl
theorem info_parts{P:Program}{e:TypeId}{z:Option Value}{s b:Nat}(h:(P.info? e).map (fun i=>(i.zero,i.size,i.bytes))=some (z,s,b)): ∃i,P.info? e=some i∧i.zero=z∧i.size=s∧i.bytes=b:=by
 cases hi:P.info? e with
 | none=>rw [hi] at h;simp at h
 | some i=>rw [hi] at h;simp at h;exact ⟨i,rfl,h.1,h.2.1,h.2.2⟩
theorem make_nodes(W:World): (Instr.makeSlice 244 (.int .i64 2) (.int .i64 2)).run prog W=.ok (.slice (some ⟨W.heap.size,0,none⟩) 2 2) (W.alloc (.cells #[.int .i64 0,.complex .f64 0 0,.complex .f64 0 0,.int .i64 0,.complex .f64 0 0,.complex .f64 0 0] 249)):=by
 obtain ⟨i,h1,h2,h3,h4⟩ :=info_parts info223
 have:=run_make (P:=prog) W 244 249 i _ underlying244 h1 h2 .i64 .i64 2 2 oM oM (by rw [h4];omega) oM
 rw [h3] at this
 have e:madeCells (Value.agg #[.int .i64 0,.complex .f64 0 0,.complex .f64 0 0]).cells (Int.toNat 2 * 3)=#[.int .i64 0,.complex .f64 0 0,.complex .f64 0 0,.int .i64 0,.complex .f64 0 0,.complex .f64 0 0]:=by kernel_rfl
 rw [e] at this
 exact this
structure TS (w:World) (b k:Nat) (w':World):Prop where
 bel:Below w.heap.size w w'
 hG:w.heap.size+1<w'.heap.size
 c0:w'.cell? ⟨w.heap.size,0,none⟩=some (.pointer (some ⟨b,0,none⟩))
 c1:w'.cell? ⟨w.heap.size,1,none⟩=some (.slice (some ⟨w.heap.size+1,0,none⟩) 2 2)
 c2:w'.cell? ⟨w.heap.size,2,none⟩=some (.int .i64 1)
 g3:w'.cell? ⟨w.heap.size+1,3,none⟩=some (.int .i64 0)
 g4:w'.cell? ⟨w.heap.size+1,4,none⟩=some (.complex .f64 0 (if k=0 then 0 else 4611686018427387904))
 g5:w'.cell? ⟨w.heap.size+1,5,none⟩=some (.complex .f64 0 (if k=0 then 0 else 4611686018427387904))
 f3:w'.frozen? ⟨w.heap.size+1,3,none⟩=false
 f4:w'.frozen? ⟨w.heap.size+1,4,none⟩=false
 f5:w'.frozen? ⟨w.heap.size+1,5,none⟩=false
theorem TS.next{w:World}{b k:Nat}{w1 w2:World}(h:TS w b k w1)(hb:Below w1.heap.size w1 w2): TS w b k w2 where
 bel:=h.bel.trans (hb.mono h.bel.size)
 hG:=Nat.lt_of_lt_of_le h.hG hb.size
 c0:=(hb.cell (p:=⟨w.heap.size,0,none⟩) (Nat.lt_of_succ_lt h.hG)).trans h.c0
 c1:=(hb.cell (p:=⟨w.heap.size,1,none⟩) (Nat.lt_of_succ_lt h.hG)).trans h.c1
 c2:=(hb.cell (p:=⟨w.heap.size,2,none⟩) (Nat.lt_of_succ_lt h.hG)).trans h.c2
 g3:=(hb.cell (p:=⟨w.heap.size+1,3,none⟩) h.hG).trans h.g3
 g4:=(hb.cell (p:=⟨w.heap.size+1,4,none⟩) h.hG).trans h.g4
 g5:=(hb.cell (p:=⟨w.heap.size+1,5,none⟩) h.hG).trans h.g5
 f3:=(hb.frozen (p:=⟨w.heap.size+1,3,none⟩) h.hG).trans h.f3
 f4:=(hb.frozen (p:=⟨w.heap.size+1,4,none⟩) h.hG).trans h.f4
 f5:=(hb.frozen (p:=⟨w.heap.size+1,5,none⟩) h.hG).trans h.f5
abbrev leafW (w w5:World):World:=((w5.setCell ⟨w.heap.size+1,3,none⟩ (.int .i64 0)).setCell ⟨w.heap.size+1,4,none⟩ (.complex .f64 0 4611686018427387904)).setCell ⟨w.heap.size+1,5,none⟩ (.complex .f64 0 4611686018427387904)
theorem TS.leaf{w:World}{b k:Nat}{w1:World}(h:TS w b k w1): TS w b 1 (leafW w w1):=by
 have hc0:=h.c0
 have hc1:=h.c1
 have hc2:=h.c2
 have hg3:=h.g3
 have hg4:=h.g4
 have hg5:=h.g5
 have hf3:=h.f3
 have hf4:=h.f4
 have hf5:=h.f5
 exact {
  bel:=((h.bel.setCell sM _).setCell sM _).setCell sM _
  hG:=by have:=h.hG;simpa [leafW,World.setCell] using this
  c0:=by simp [leafW,go_sem,hc0]
  c1:=by simp [leafW,go_sem,hc1]
  c2:=by simp [leafW,go_sem,hc2]
  g3:=by simp [leafW,go_sem,hg3]
  g4:=by simp [leafW,go_sem,hg4]
  g5:=by simp [leafW,go_sem,hg5]
  f3:=by simp [leafW,go_sem,hf3]
  f4:=by simp [leafW,go_sem,hf4]
  f5:=by simp [leafW,go_sem,hf5] }
abbrev treeW (w:World) (b m:Nat):World:=(((w.alloc (Obj.cells #[Value.pointer (some ⟨b,0,none⟩),Value.slice none 0 0,Value.int IntKind.i64 1] 246)).drewN m).setCell ⟨w.heap.size,1,none⟩ (.slice (some ⟨w.heap.size+1,0,none⟩) 2 2)).alloc (Obj.cells #[.int .i64 0,.complex .f64 0 0,.complex .f64 0 0,.int .i64 0,.complex .f64 0 0,.complex .f64 0 0] 249)
theorem treeW_below(w:World)(b m:Nat): Below w.heap.size w (treeW w b m):=
 ((below_drewN ((Below.refl _ w).alloc qL _) m).setCell qL _).alloc (by simp [World.setCell]) _
theorem TS.start(w:World)(b m:Nat): TS w b 0 (treeW w b m) where
 bel:=treeW_below w b m
 hG:=by simp [treeW,World.setCell]
 c0:=by simp [treeW,go_sem]
 c1:=by simp [treeW,go_sem]
 c2:=by simp [treeW,go_sem]
 g3:=by simp [treeW,go_sem]
 g4:=by simp [treeW,go_sem]
 g5:=by simp [treeW,go_sem]
 f3:=by simp [treeW,go_sem]
 f4:=by simp [treeW,go_sem]
 f5:=by simp [treeW,go_sem]
def Tr (w:World) (p b:Nat):Prop:=∃G,p<w.heap.size∧G<w.heap.size∧w.cell? ⟨p,0,none⟩=some (.pointer (some ⟨b,0,none⟩))∧w.cell? ⟨p,1,none⟩=some (.slice (some ⟨G,0,none⟩) 2 2)∧w.cell? ⟨p,2,none⟩=some (.int .i64 1)∧w.cell? ⟨G,3,none⟩=some (.int .i64 0)∧w.cell? ⟨G,4,none⟩=some (.complex .f64 0 4611686018427387904)
theorem Tr.of{w w':World}{b:Nat}(h:TS w b 1 w'): Tr w' w.heap.size b:=⟨_,Nat.lt_of_succ_lt h.hG,h.hG,h.c0,h.c1,h.c2,h.g3,h.g4⟩
theorem Tr.below{w w':World}{p b:Nat}(h:Tr w p b)(hb:Below w.heap.size w w'): Tr w' p b:=by
 obtain ⟨G,h1,h2,h3,h4,h5,h6,h7⟩ :=h
 exact ⟨G,Nat.lt_of_lt_of_le h1 hb.size,Nat.lt_of_lt_of_le h2 hb.size,(hb.cell (p:=⟨p,0,none⟩) h1).trans h3,(hb.cell (p:=⟨p,1,none⟩) h1).trans h4,(hb.cell (p:=⟨p,2,none⟩) h1).trans h5,(hb.cell (p:=⟨G,3,none⟩) h2).trans h6,(hb.cell (p:=⟨G,4,none⟩) h2).trans h7⟩
def TSo (w:World) (b:Nat) (w':World):Prop:=∃k,TS w b k w'
theorem TS.held{w:World}{b k:Nat}{w':World}(h:TS w b k w'): w'.cell? ⟨w.heap.size,1,none⟩=some (.slice (some ⟨w.heap.size+1,0,none⟩) 2 2)∧w'.cell? ⟨w.heap.size,2,none⟩=some (.int .i64 1)∧Hid (TSo w b w'):=
 ⟨h.c1,h.c2,hid ⟨k,h⟩⟩
theorem quiet_sum{P:Program}{f:FuncId}{args:Array Value}{w:World}{m x:Nat}{v:Value}(h:Calls P f args (w.drewN (m+x)) fun e w'=>e=.returned v∧w.drewN (m+x)=w'): Calls P f args (w.drewN (m+x)) fun e w''=>e=.returned v∧∃n,w''=w.drewN (m+n):=
 h.mono fun _ _ ⟨he,hm⟩ =>⟨he,x,hm.symm⟩
theorem rlen4(b:Nat)(w:World)(h:Rw w b 3 4): Calls prog 142 #[.pointer (some ⟨b,0,none⟩)] w fun e w'=>e=.returned (.int .i64 4)∧w=w':=rlen_any b 3 4 w h
theorem tnew_any(b:Nat)(w:World)(h:Rw w b 3 4): Calls prog 76 #[.pointer (some ⟨b,0,none⟩)] w fun e w'=>e=.returned (.pointer (some ⟨w.heap.size,0,none⟩))∧Below w.heap.size w w'∧Tr w' w.heap.size b:=by
 go_enter func76,ntmps76
 go_wp2_with fail
 have h1:=h.alloc (Obj.cells #[Value.pointer (some ⟨b,0,none⟩),Value.slice none 0 0,Value.int IntKind.i64 1] 246)
 go_loopg [] 1 (fun g wr=>∃m,wr=(w.alloc (Obj.cells #[Value.pointer (some ⟨b,0,none⟩),Value.slice none 0 0,Value.int IntKind.i64 1] 246)).drewN m)
 case atStart=>exact ⟨0,rfl⟩
 case round=>
  obtain ⟨m,rfl⟩ :=hrel
  go_wp2_with fail
  go_quiet ((go_at_call 142;exact quiet_sum (rlen4 b _ (h1.drewN _))))
  have hmk:=make_nodes
  go_wp2_with fail
  go_loopg [4,37] 1 (fun g i0 i wr=>∃k:Nat,k≤1∧g=1-k∧i=.int .i64 k∧Hid (TS w b k wr))
  case atStart=>
   exact ⟨0,by omega,rfl,rfl,hid (TS.start w b _)⟩
  case round=>
   obtain ⟨k,hk,rfl,rfl,HT⟩ :=hrel
   by_cases hlt:k<1
   ·obtain rfl:k=0:=oM
    have HTd:=hid (HT.out.next (qR.drew))
    have:IntKind.i64.wrap (1+((0:Nat):Int))=1:=by decide
    have:IntKind.i64.wrap (((0:Nat):Int) * 512)=0:=by decide
    have:IntKind.i64.wrap 1=1:=by decide
    have:IntKind.i64.wrap 0=0:=by decide
    go_wp2_with fail
    go_region_held3 (fun w'=>w'.cell? ⟨w.heap.size,1,none⟩=some (.slice (some ⟨w.heap.size+1,0,none⟩) 2 2)∧w'.cell? ⟨w.heap.size,2,none⟩=some (.int .i64 1)∧Hid (TSo w b w')) (first|assumption|exact TS.held HT.out|exact TS.held HTd.out|exact TS.held (Hid.out aM)|exact TS.held (TS.leaf (Hid.out aM)))
     (first|(go_at_call 144;refine (leaf_any b _ (h.below (TS.bel (Hid.out (by first|exact HT|exact HTd))))).mono ?_;rintro e w5 ⟨rfl,hb⟩;have HX:=hid (TS.next (Hid.out (by first|exact HT|exact HTd)) hb);clear hb;have g3:=HX.out.g3;have g4:=HX.out.g4;have g5:=HX.out.g5;have f3:=HX.out.f3;have f4:=HX.out.f4;have f5:=HX.out.f5))
    go_wp2_with fail
    go_roundg 0
    case measure=>go_light;omega
    case rel=>go_light;exact ⟨1,by omega,rfl,by go_num,hid (TS.leaf HX.out)⟩
   ·obtain rfl:k=1:=oM
    have c2:=HT.out.c2
    go_wp2_with fail
    go_loopg [5] 1 (fun g i wx=>i=.int .i64 0∧wx=wr)
    case atStart=>exact ⟨rfl,rfl⟩
    case round=>
     obtain ⟨rfl,rfl⟩ :=hrel
     go_wp2_with fail
     go_ret
     exact ⟨rfl,HT.out.bel,Tr.of HT.out⟩
end
section
open Go.RowKit
theorem Tr.drewN{w:World}{p b:Nat}(h:Tr w p b)(m:Nat): Tr (w.drewN m) p b:=h.below (below_drewN qR m)
theorem may_any(p b:Nat)(d:Int)(hd:0≤d∧d≤4)(w:World)(h:Rw w b 3 4)(ht:Tr w p b): Calls prog 335 #[.pointer (some ⟨p,0,none⟩),.int .i64 d] w fun e w'=>e=.returned (.bool true)∧∃m,w'=w.drewN m:=by
 obtain ⟨G,h1,h2,h3,h4,h5,h6,h7⟩ :=ht
 have:decide (d≤4)=true:=by rw [decide_eq_true_eq];omega
 have:decide (-4≤d)=true:=by rw [decide_eq_true_eq];omega
 have:IntKind.i64.wrap (-4)=-4:=by decide
 go_enter func335,ntmps335
 go_wp2_with (first|(go_at_call 142;refine (rlen4 b _ (by first|exact h|exact h.drewN _)).mono ?_;rintro e w1 ⟨rfl,rfl⟩))
 go_ret
 exact ⟨rfl,0,rfl⟩
theorem balanced_any(p b:Nat)(w:World)(h:Rw w b 3 4)(ht:Tr w p b): Calls prog 77 #[.pointer (some ⟨p,0,none⟩)] w fun e w'=>e=.returned (.bool true)∧∃m,w'=w.drewN m:=by
 obtain ⟨G,h1,h2,h3,h4,h5,h6,h7⟩ :=ht
 go_enter func77,ntmps77
 go_wp2_with (first|(go_at_call 142;refine (rlen4 b _ (by first|exact h|exact h.drewN _)).mono ?_;rintro e w1 ⟨rfl,rfl⟩))
 go_ret
 exact ⟨ret_bool (by rw [show FloatKind.f64.format.order 0 0=some .eq by decide +kernel];rfl),0,rfl⟩
theorem tforth_any(p b:Nat)(w:World)(h:Rw w b 3 4)(ht:Tr w p b): Calls prog 291 #[.pointer (some ⟨p,0,none⟩),.int .i64 1,.int .i64 0] w fun e w'=>e=.returned (.int .i64 2)∧∃m,w'=w.drewN m:=by
 have ht0:=ht
 obtain ⟨G,h1,h2,h3,h4,h5,h6,h7⟩ :=ht
 go_enter func291,ntmps291
 go_wp2
 go_step3
 go_wp2_with fail
 refine (may_any p b 0 oM _ h ht0).mono ?_;rintro e w1 ⟨rfl,m1,rfl⟩
 go_wp2_with (first|(go_at_call 142;refine (rlen4 b _ (by first|exact h|exact h.drewN _)).mono ?_;rintro e w1 ⟨rfl,rfl⟩)|(go_at_call 336;refine (pforth_any b _ (by first|exact h|exact h.drewN _)).mono ?_;rintro e w1 ⟨rfl,m2,rfl⟩))
 rw [Exit.noGoto_ret]
 go_ret
 exact ⟨rfl,_,rfl⟩
theorem tback_any(p b:Nat)(w:World)(h:Rw w b 3 4)(ht:Tr w p b): Calls prog 295 #[.pointer (some ⟨p,0,none⟩),.int .i64 1,.int .i64 1] w fun e w'=>e=.returned (.int .i64 0)∧∃m,w'=w.drewN m:=by
 have ht0:=ht
 obtain ⟨G,h1,h2,h3,h4,h5,h6,h7⟩ :=ht
 go_enter func295,ntmps295
 go_wp2
 go_step3
 go_wp2_with fail
 refine (may_any p b 1 oM _ h ht0).mono ?_;rintro e w1 ⟨rfl,m1,rfl⟩
 go_wp2_with (first|(go_at_call 142;refine (rlen4 b _ (by first|exact h|exact h.drewN _)).mono ?_;rintro e w1 ⟨rfl,rfl⟩)|(go_at_call 339;refine (pback_any b _ (by first|exact h|exact h.drewN _)).mono ?_;rintro e w1 ⟨rfl,m2,rfl⟩))
 rw [Exit.noGoto_ret]
 go_ret
 exact ⟨rfl,_,rfl⟩
def UnrR (P:Program) (c:Code) (Q:Exit→Act→World→Prop):Nat→Act→World→Prop
 | 0,_,_=>False
 | n+1,a,w=>∀K:Act→World→Prop,(∀a w,UnrR P c Q n a w→K a w)→c.wp P (Exit.then K Q) a w
structure Unr (P:Program) (c:Code) (Q:Exit→Act→World→Prop) (n:Nat) (a:Act) (w:World):Prop where
 run:UnrR P c Q n a w
theorem wp_loop_unr{P:Program}{c:Code}{Q:Exit→Act→World→Prop}{a:Act}{w:World}(n:Nat)(h:Unr P c Q n a w): (Code.loop c).wp P Q a w:=by
 refine wp_loop_ghost (fun n a w=>UnrR P c Q n a w) n h.run ?_
 intro n a w hU
 cases n with
 | zero=>exact hU.elim
 | succ n=>exact hU _ (fun a w h=>⟨n,Nat.lt_succ_self n,h⟩)
theorem Unr.step{P:Program}{c:Code}{Q:Exit→Act→World→Prop}{a:Act}{w:World}{n:Nat}(h:∀K:Act→World→Prop,(∀a w,Unr P c Q n a w→K a w)→c.wp P (Exit.then K Q) a w): Unr P c Q (n+1) a w:=⟨fun K hK=>h K fun a w h=>hK a w h.run⟩
def LabR (P:Program) (c:Code) (Q:Exit→Act→World→Prop):Nat→Nat→Act→World→Prop
 | 0,_,_,_=>False
 | n+1,l,a,w=>∃rest,findLabel c l=some rest∧∀K:Nat→Act→World→Prop,(∀l a w,LabR P c Q n l a w→K l a w)→rest.wp P (jumps K Q) a w
structure Lab (P:Program) (c:Code) (Q:Exit→Act→World→Prop) (n l:Nat) (a:Act) (w:World):Prop where
 run:LabR P c Q n l a w
theorem Lab.step{P:Program}{c:Code}{Q:Exit→Act→World→Prop}{a:Act}{w:World}{n l:Nat}(rest:Code)(hf:findLabel c l=some rest)(h:∀K:Nat→Act→World→Prop,(∀l a w,Lab P c Q n l a w→K l a w)→rest.wp P (jumps K Q) a w): Lab P c Q (n+1) l a w:=⟨rest,hf,fun K hK=>h K fun l a w h=>hK l a w h.run⟩
theorem wp_scope_lab{P:Program}{a:Act}{w:World}{Q:Exit→Act→World→Prop}{c:Code}(n:Nat)(h:∀K:Nat→Act→World→Prop,(∀l a w,Lab P c Q n l a w→K l a w)→c.wp P (jumps K Q) a w): (Code.scope c).wp P Q a w:=by
 refine wp_scope_labels (fun m l a w=>LabR P c Q m l a w) (n+1) (h _ fun l a w hL=>⟨n,Nat.lt_succ_self n,hL.run⟩) ?_
 intro m l a w hL
 cases m with
 | zero=>exact hL.elim
 | succ m=>
  obtain ⟨rest,hf,hr⟩ :=hL
  exact ⟨rest,hf,hr _ fun l a w h=>⟨m,Nat.lt_succ_self m,h⟩⟩
theorem below_drewN'{w0 w:World}{B:Nat}(h:Below B w0 w)(m:Nat): Below B w0 (w.drewN m):=⟨h.os,h.tape,h.output,h.size,h.block⟩
theorem bel_step{w W w':World}(a:Below w.heap.size w W)(hb:Below W.heap.size W w'): Hid (Below w.heap.size w w'):=hid (a.trans (hb.mono a.size))
structure Acc (w0 w:World) (e:TypeId) (size:Nat) (v:Value) (n:Nat) (xs:List Value):Prop where
 own:w.ownsRow w0.heap.size e size v n xs
 bel:Below w0.heap.size w0 w
theorem Acc.nil{w0 w:World}(h:Below w0.heap.size w0 w)(e:TypeId)(size:Nat): Acc w0 w e size (.slice none 0 0) 0 []:=⟨World.ownsRow_nil _ _ _ _,h⟩
theorem Acc.below{w0 w w':World}{e:TypeId}{size:Nat}{v:Value}{n:Nat}{xs:List Value}(h:Acc w0 w e size v n xs)(hb:Below w.heap.size w w'): Acc w0 w' e size v n xs:=
 ⟨h.own.kept (row:=Option.none) ⟨hb.os,hb.tape,hb.output,hb.size,fun k hk _=>hb.block k hk⟩ (by
  cases hv:v.ownBlock with
  | none=>exact .inl rfl
  | some k=>exact .inr (fun e=>by injection e)),h.bel.trans (hb.mono h.bel.size)⟩
theorem Acc.alloc{w0 w:World}{e:TypeId}{size:Nat}{v:Value}{n:Nat}{xs:List Value}(h:Acc w0 w e size v n xs)(o:Obj): Acc w0 (w.alloc o) e size v n xs:=h.below (qR.alloc qL _)
theorem Acc.drewN{w0 w:World}{e:TypeId}{size:Nat}{v:Value}{n:Nat}{xs:List Value}(h:Acc w0 w e size v n xs)(m:Nat): Acc w0 (w.drewN m) e size v n xs:=h.below (below_drewN' qR m)
theorem Acc.drew{w0 w:World}{e:TypeId}{size:Nat}{v:Value}{n:Nat}{xs:List Value}(h:Acc w0 w e size v n xs): Acc w0 w.drew e size v n xs:=h.below qR.drew
theorem wpList_push{P:Program}{ops:Array Oper}{rest:List Oper}{o:Oper}{a:Act}{Q:Exit→Act→World→Prop}{w0 w:World}{C:Array Value}{ty:TypeId}(hgd:o.guard=none)(s x:Operand)(t:TypeId)(ho:o.op=.call { callee:=.builtin .append,args:=#[s,x],argTypes:=#[t,t] })(e:TypeId)(i:TypeInfo)(z:Value)(size bytes:Nat)(ht:P.underlying t=some (.slice e))(hi:P.info? e=some i)(hz:i.zero=some z)(hsize:i.size=size)(hby:i.bytes=bytes)(hzs:z.cells.size=size)(hsz:0<size){v:Value}{n:Nat}{xs:List Value}(hA:Acc w0 w e size v n xs)(hs:a.eval s=v){H:Nat}(hx:a.eval x=.slice (some ⟨H,0,none⟩) 1 1)(hH:w.heap.size=H)(hC:C.size=size)(h1:C.toList.all (·.oneCell')=true)(h63:n<1000)(hbytes:bytes≤1000)(h:∀g cap w',Acc w0 w' e size (.slice (some ⟨g,0,none⟩) (n+1) cap) (n+1) (xs++C.toList)→wpList P ops Q rest (a.put o.dst (.slice (some ⟨g,0,none⟩) (n+1) cap)) w'): wpList P ops Q (o::rest) a (w.alloc (.cells C ty)):=by
 subst hH
 have:(n+1) * bytes≤1000 * 1000:=Nat.mul_le_mul oM hbytes
 refine wpList_append_lies _ hgd s x t ho w0.heap.size e i z size bytes ht hi hz hsize hby hzs hsz v n xs hs (hA.alloc _).own ⟨w.heap.size,0,none⟩ 1 1 C.toList hx (by simp [hC]) (World.news_of_block (heap_alloc_new w _)) (fun u hu=>List.all_eq_true.1 h1 u hu) oM (by unfold maxLen;omega) oM (by have:=hA.bel.size;simp;omega) _ rfl ?_
 intro g cap w' ho hg _ _
 exact h g cap w' ⟨ho,(hA.bel.alloc hA.bel.size _).grown hg (by have:=hA.bel.size;simp;omega) (fun j hj=>(hA.own.lt j hj).1)⟩
theorem step_push{P:Program}{ops:Array Oper}{o:Oper}{a:Act}{K:Act→World→Prop}{Q:Exit→Act→World→Prop}{E:Prop}{w0 w:World}{C:Array Value}{ty:TypeId}(hgd:o.guard=none)(s x:Operand)(t:TypeId)(ho:o.op=.call { callee:=.builtin .append,args:=#[s,x],argTypes:=#[t,t] })(e:TypeId)(i:TypeInfo)(z:Value)(size bytes:Nat)(ht:P.underlying t=some (.slice e))(hi:P.info? e=some i)(hz:i.zero=some z)(hsize:i.size=size)(hby:i.bytes=bytes)(hzs:z.cells.size=size)(hsz:0<size){v:Value}{n:Nat}{xs:List Value}(hA:Acc w0 w e size v n xs)(hs:a.eval s=v){H:Nat}(hx:a.eval x=.slice (some ⟨H,0,none⟩) 1 1)(hH:w.heap.size=H)(hC:C.size=size)(h1:C.toList.all (·.oneCell')=true)(h63:n<1000)(hbytes:bytes≤1000)(h:∀g cap w',Acc w0 w' e size (.slice (some ⟨g,0,none⟩) (n+1) cap) (n+1) (xs++C.toList)→K (a.put o.dst (.slice (some ⟨g,0,none⟩) (n+1) cap)) w'):
  if Region.wanted o (yielded ops a.tmps)=true then Oper.wp P o a (w.alloc (.cells C ty)) K Q else E:=by
 subst hH
 have:(n+1) * bytes≤1000 * 1000:=Nat.mul_le_mul oM hbytes
 refine step_append_lies _ hgd s x t ho w0.heap.size e i z size bytes ht hi hz hsize hby hzs hsz v n xs hs (hA.alloc _).own ⟨w.heap.size,0,none⟩ 1 1 C.toList hx (by simp [hC]) (World.news_of_block (heap_alloc_new w _)) (fun u hu=>List.all_eq_true.1 h1 u hu) oM (by unfold maxLen;omega) oM (by have:=hA.bel.size;simp;omega) _ rfl ?_
 intro g cap w' ho hg _ _
 exact h g cap w' ⟨ho,(hA.bel.alloc hA.bel.size _).grown hg (by have:=hA.bel.size;simp;omega) (fun j hj=>(hA.own.lt j hj).1)⟩
theorem acc_step{w0 W0 W w':World}{e:TypeId}{size:Nat}{v:Value}{n:Nat}{xs:List Value}(h:Acc w0 W0 e size v n xs)(a:Below W0.heap.size W0 W)(hb:Below W.heap.size W w'): Hid (Acc w0 w' e size v n xs):=hid ((h.below a).below hb)
theorem Acc.cap{w0 w:World}{e:TypeId}{size:Nat}{g cap n:Nat}{xs:List Value}(h:Acc w0 w e size (.slice (some ⟨g,0,none⟩) (n+1) cap) (n+1) xs): n+1≤cap:=by
 rcases h.own.2 with ⟨hv,h0⟩|⟨g',cap',cur,hv,hb,hg,hc,_,hs,hx⟩
 ·omega
 ·injection hv with hv _ h3
  omega
theorem Acc.row{w0 w:World}{e:TypeId}{size:Nat}{g cap n:Nat}{xs:List Value}(h:Acc w0 w e size (.slice (some ⟨g,0,none⟩) (n+1) cap) (n+1) xs): w0.heap.size≤g∧g<w.heap.size∧∀j u,xs[j]?=some u→w.cell? ⟨g,j,none⟩=some u:=by
 rcases h.own.2 with ⟨hv,h0⟩|⟨g',cap',cur,hv,hb,hg,_,_,hs,hx⟩
 ·omega
 ·injection hv with hv _ _
  injection hv with hv
  injection hv with hv _ _
  subst hv
  refine ⟨hb,(Array.getElem?_eq_some_iff.1 hg).1,fun j u hj=>?_⟩
  rw [←hx,List.getElem?_take] at hj
  split at hj
  ·simp [World.cell?,hg,hj]
   simpa using hj
  ·simp at hj
end
end Go.Proofs.YtjcioljdlfdnbaaGreatDoor
section
namespace Go.Proofs.Lw
def ufirst (b:Int):Int:=
 if b<128 then 0
 else if 194≤b∧b≤223 then 1
 else if b=224 then 4
 else if b=237 then 5
 else if 225≤b∧b≤239 then 2
 else if b=240 then 6
 else if 241≤b∧b≤243 then 3
 else if b=244 then 7
 else 8
def ulow (st:Int):Int:=if st=4 then 160 else if st=6 then 144 else 128
def uhigh (st:Int):Int:=if st=5 then 159 else if st=7 then 143 else 191
def unext (st:Int):Int:=
 if st=4 then 1 else if st=5 then 1 else if st=6 then 2 else if st=7 then 2
 else if st=1 then 0 else if st=2 then 1 else if st=3 then 2 else 8
def ustep (st b:Int):Int:=
 if st=0 then ufirst b
 else if b<ulow st∨uhigh st<b then 8 else unext st
def ulead (b:Int):Int:=if 240≤b then 3 else if 224≤b then 2 else 1
def putN (c:Int):List Int:=
 if c<0∨1114111<c∨55296≤c∧c≤57343 then []
 else if c<128 then [c]
 else if c<2048 then [192+c / 64,128+c % 64]
 else if c<65536 then [224+c / 4096,128+c / 64 % 64,128+c % 64]
 else [240+c / 262144,128+c / 4096 % 64,128+c / 64 % 64,128+c % 64]
end Go.Proofs.Lw
end
