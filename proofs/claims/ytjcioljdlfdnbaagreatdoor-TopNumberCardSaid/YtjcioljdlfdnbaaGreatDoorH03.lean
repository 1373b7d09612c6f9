/- Part 3: lemmas for TopNumber; no conditions. -/
import Derived.Test.YtjcioljdlfdnbaaGreatDoorH01
import Derived.StillTailTactics
import Derived.Test.YtjcioljdlfdnbaaGreatDoorH02
import Derived.RangeFuncBox
set_option linter.unusedVariables false
set_option linter.unusedSimpArgs false
set_option maxRecDepth 100000
set_option maxHeartbeats 2000000
open Go.Proofs.Tryz
namespace Go.Proofs.YtjcioljdlfdnbaaGreatDoor
section
open Go.RowKit
theorem and_full: ∀x:Nat,x<256→bits .and .u64 (x:Int) 18446744073709551615=(x:Int):=by decide +kernel
theorem ones_full(x:Nat)(hx:x<256)(w:World): Calls prog 208 #[.int .u64 (x:Nat),.int .i64 64] w fun e w'=>e=.returned (.int .i64 (pop x:Nat))∧w=w':=by
 have hk:=and_full x hx
 go_enter func208,ntmps208
 go_wp2_with (first|(go_at_call 271;refine (ones64 x hx _).mono ?_;rintro e w1 ⟨rfl,rfl⟩)|go_in)
 go_ret
 exact ⟨rfl,rfl⟩
theorem word1_int(b x n:Nat)(k:Int)(w:World)(h:Rw w b x n)(hk:1≤k): Calls prog 147 #[.pointer (some ⟨b,0,none⟩),.int .i64 k] w fun e w'=>e=.returned (.int .u64 0)∧w=w':=by
 obtain ⟨j,rfl⟩:∃j:Nat,k=j:=⟨k.toNat,by omega⟩
 exact word1_any b x n j w h oM
theorem ones_none(w:World): Calls prog 208 #[.int .u64 0,.int .i64 64] w fun e w'=>e=.returned (.int .i64 0)∧w=w':=ones_full 0 oM w
def Ek:Nat→Nat
 | 0=>0
 | 1=>0
 | k+2=>Ek (k+1)+2 * 2 ^ (9 * k)
structure DS (w:World) (b:Nat) (w':World):Prop where
 bel:Below w.heap.size w w'
 hD:w.heap.size<w'.heap.size
 c0:w'.cell? ⟨w.heap.size,0,none⟩=some (.pointer (some ⟨b,0,none⟩))
 c1:w'.cell? ⟨w.heap.size,1,none⟩=some (.slice none 0 0)
 f1:w'.frozen? ⟨w.heap.size,1,none⟩=false
theorem DS.next{w:World}{b:Nat}{w1 w2:World}(h:DS w b w1)(hb:Below w1.heap.size w1 w2): DS w b w2 where
 bel:=h.bel.trans (hb.mono h.bel.size)
 hD:=Nat.lt_of_lt_of_le h.hD hb.size
 c0:=(hb.cell (p:=⟨w.heap.size,0,none⟩) h.hD).trans h.c0
 c1:=(hb.cell (p:=⟨w.heap.size,1,none⟩) h.hD).trans h.c1
 f1:=(hb.frozen (p:=⟨w.heap.size,1,none⟩) h.hD).trans h.f1
theorem info286: (prog.info? 337).map (fun i=>(i.zero,i.size,i.bytes))=some (some (.agg #[.int .u64 0,.int .u64 0]),2,16):=by kernel_rfl
structure ES (wr:World) (k:Nat) (wx:World):Prop where
 bel:Below wr.heap.size wr wx
 hN:wr.heap.size<wx.heap.size
 c0:wx.cell? ⟨wr.heap.size,0,none⟩=some (.int .u64 0)
 c1:wx.cell? ⟨wr.heap.size,1,none⟩=some (.int .u64 (Ek k:Nat))
 f1:wx.frozen? ⟨wr.heap.size,1,none⟩=false
theorem ES.drewN{wr wx:World}{k:Nat}(h:ES wr k wx)(m:Nat): ES wr k (wx.drewN m):=
 ⟨below_drewN h.bel m,h.hN,by simpa using h.c0,by simpa using h.c1,by simpa using h.f1⟩
theorem ES.drew{wr wx:World}{k:Nat}(h:ES wr k wx): ES wr k wx.drew:=
 ⟨h.bel.drew,h.hN,h.c0,h.c1,h.f1⟩
theorem ES.set{wr wx:World}{k:Nat}(h:ES wr k wx)(v:Int)(hv:v=((Ek (k+1):Nat):Int)): ES wr (k+1) (wx.setCell ⟨wr.heap.size,1,none⟩ (.int .u64 v)):=by
 have h0:=h.c0
 have h1:=h.c1
 have h2:=h.f1
 subst hv
 exact ⟨h.bel.setCell qL _,by have:=h.hN;simpa [World.setCell] using this,by simp [go_sem,h0],by simp [go_sem,h1],by simp [go_sem,h2]⟩
def Dr (w:World) (p b:Nat):Prop:=∃G cap,p<w.heap.size∧G<w.heap.size∧w.cell? ⟨p,0,none⟩=some (.pointer (some ⟨b,0,none⟩))∧w.cell? ⟨p,1,none⟩=some (.slice (some ⟨G,0,none⟩) 1 cap)∧w.cell? ⟨G,0,none⟩=some (.int .u64 0)∧w.cell? ⟨G,1,none⟩=some (.int .u64 (Ek 8:Nat))
theorem cell_set_ne{w:World}{a b:Addr}{v:Value}(h:b.block≠a.block): (w.setCell a v).cell? b=w.cell? b:=qO (fun e=>h (by rw [e]))
theorem Dr.made{w wr W w6:World}{b gb cap:Nat}(HD:DS w b wr)(hW:Below wr.heap.size wr W)(hg:W.grownBy w6 none)(ho:w6.ownsRow w.heap.size 337 2 (.slice (some ⟨gb,0,none⟩) (0+1) cap) (0+1) ([]++[.int .u64 0,.int .u64 36099303471055874]))(hor:(Value.slice none 0 0).ownBlock=some gb∨gb=W.heap.size)(hlt:gb<w6.heap.size):
  Below w.heap.size w (w6.setCell ⟨w.heap.size,1,none⟩ (.slice (some ⟨gb,0,none⟩) 1 cap))∧Dr (w6.setCell ⟨w.heap.size,1,none⟩ (.slice (some ⟨gb,0,none⟩) 1 cap)) w.heap.size b:=by
 have:gb=W.heap.size:=by
  rcases hor with h|h
  ·simp [Value.ownBlock] at h
  ·exact h
 have hD:=HD.hD
 have hWs:=hW.size
 have hne:gb≠w.heap.size:=oM
 have b1:Below w.heap.size w W:=HD.bel.trans (hW.mono HD.bel.size)
 have b2:Below w.heap.size w w6:=b1.grown hg b1.size sM
 have c0:w6.cell? ⟨w.heap.size,0,none⟩=some (.pointer (some ⟨b,0,none⟩)):=by
  rw [World.grownBy.cell_far hg ⟨w.heap.size,0,none⟩ (by simp;omega) (by simp),hW.cell (p:=⟨w.heap.size,0,none⟩) hD];exact HD.c0
 have c1:w6.cell? ⟨w.heap.size,1,none⟩=some (.slice none 0 0):=by
  rw [World.grownBy.cell_far hg ⟨w.heap.size,1,none⟩ (by simp;omega) (by simp),hW.cell (p:=⟨w.heap.size,1,none⟩) hD];exact HD.c1
 have g0:=ho.cellAt 0 oM
 have g1:=ho.cellAt 1 oM
 simp at g0 g1
 have hs:=hg.size
 refine ⟨b2.setCell qL _,gb,cap,by simp [World.setCell];omega,by simpa [World.setCell] using hlt,by simp [go_sem,c0],by simp [go_sem,c1],?_,?_⟩
 ·rw [cell_set_ne (by simpa using hne)];exact g0
 ·rw [cell_set_ne (by simpa using hne)];rw [g1];exact congrArg some (congrArg (Value.int .u64) (by decide +kernel))
theorem rnew_any(b x n:Nat)(w:World)(h:Rw w b x n)(hx:x<256)(hn:n<9)(hp:pop x=2): Calls prog 146 #[.pointer (some ⟨b,0,none⟩)] w fun e w'=>e=.returned (.pointer (some ⟨w.heap.size,0,none⟩))∧Below w.heap.size w w'∧Dr w' w.heap.size b:=by
 go_enter func146,ntmps146
 go_wp2_with fail
 go_loopg [4,5] 1 (fun g al at' wr=>(g=1∧al=.int .i64 0∧at'=.int .i64 0∧Hid (DS w b wr))∨(g=0∧al=.int .i64 2∧at'=.int .i64 512∧Hid (Below w.heap.size w wr∧Dr wr w.heap.size b)))
 case atStart=>
  refine .inl ⟨rfl,rfl,rfl,hid { bel:=(Below.refl _ w).alloc qL _,hD:=by simp,c0:=by simp [go_sem],c1:=by simp [go_sem],f1:=by simp [go_sem] }⟩
 case round=>
  rcases hrel with ⟨rfl,rfl,rfl,HS⟩|⟨rfl,rfl,rfl,HR⟩
  ·have hn0:(0:Int)≤(n:Int):=oM
   go_wp2_with (first|(go_at_call 142;refine (rlen_any b x n _ (h.below HS.out.bel)).mono ?_;rintro e w1 ⟨rfl,rfl⟩))
   go_loopg [7,8,21] 8 (fun g n' kk i wx=>∃k:Nat,k≤8∧g=8-k∧i=.int .i64 k∧n'=.int .i64 (if k=0 then 0 else 2)∧Hid (ES wr k wx))
   case atStart=>
    exact ⟨0,by omega,rfl,rfl,rfl,hid ⟨qR.alloc qL _,by simp,by simp [go_sem],by simp [go_sem,Ek],by simp [go_sem]⟩⟩
   case round=>
    obtain ⟨k,hk,rfl,rfl,rfl,HE⟩ :=hrel
    have hRw:=h.below (HS.out.bel.trans (HE.out.bel.mono HS.out.bel.size))
    by_cases h0:k=0
    ·subst h0
     go_wp2_with (first|(go_at_call 147;refine (word0_any b x n _ hRw).mono ?_;rintro e w1 ⟨rfl,rfl⟩)|(go_at_call 208;refine (ones_full x hx _).mono ?_;rintro e w1 ⟨rfl,rfl⟩))
     go_roundg 7
     case measure=>go_light;omega
     case rel=>go_light;exact ⟨1,by omega,rfl,by go_num,i64_eq (by rw [if_neg (by omega)]),hid ⟨HE.out.bel,HE.out.hN,HE.out.c0,HE.out.c1,HE.out.f1⟩⟩
    ·by_cases h8:k=8
     ·subst h8
      have e0:=HE.out.c0
      have e1:=HE.out.c1
      have HD:=hid (HS.out.next HE.out.bel)
      have d1:=HD.out.c1
      have d2:=HD.out.f1
      obtain ⟨i0,hi0,hz0,hs0,hb0⟩ :=info_parts info286
      rw [show ((Ek 8:Nat):Int)=36099303471055874 by decide +kernel] at e1
      go_wp2_with fail
      have hDlt:w.heap.size<wr.heap.size:=HD.out.hD
      have hcl:∀o:Obj,(wr.alloc o).drew.cell? ⟨w.heap.size,1,none⟩=some (.slice none 0 0):=fun o=>by rw [show (wr.alloc o).drew.cell? ⟨w.heap.size,1,none⟩=(wr.alloc o).cell? ⟨w.heap.size,1,none⟩ from rfl,World.cell?_alloc_past _ _ _ hDlt];exact d1
      have hfl:∀o:Obj,(wr.alloc o).drew.frozen? ⟨w.heap.size,1,none⟩=false:=fun o=>by rw [show (wr.alloc o).drew.frozen? ⟨w.heap.size,1,none⟩=(wr.alloc o).frozen? ⟨w.heap.size,1,none⟩ from rfl,World.frozen?_alloc_past _ _ _ hDlt];exact d2
      have hbs:w.heap.size≤((wr.alloc (.cells #[.int .u64 0,.int .u64 36099303471055874] 337)).drew).heap.size:=by have:=HD.out.hD;simp;omega
      go_region_law ((refine step_append_lies _ rfl (.tmp 50) (.tmp 52) 333 rfl w.heap.size 337 i0 _ 2 16 underlying333 hi0 hz0 hs0 hb0 rfl oM (.slice none 0 0) 0 [] rfl (World.ownsRow_nil _ _ _ _) ⟨wr.heap.size,0,none⟩ 1 1 [.int .u64 0,.int .u64 36099303471055874] rfl rfl (World.news_of_block (heap_alloc_new wr _)) (by intro u hu;simp at hu;rcases hu with rfl|rfl <;> rfl) oM (by unfold maxLen;omega) oM hbs _ rfl ?_;intro gb cap w6 ho hg hor hlt;have d1':=(World.grownBy.cell_far hg ⟨w.heap.size,1,none⟩ (by simp;omega) (by simp [Value.ownBlock])).trans (hcl _);have d2':=(World.grownBy.frozen_far hg ⟨w.heap.size,1,none⟩ (by simp;omega) (by simp [Value.ownBlock])).trans (hfl _)))
      all_goals
       have HM:=hid (Dr.made HD.out (((Below.refl _ wr).alloc qL _).drew) hg ho hor hlt)
       clear hg ho hor hlt
       go_wp2_with fail
       go_roundg 0
       case measure=>go_light;omega
       case rel=>go_light;exact .inr ⟨rfl,rfl,rfl,HM⟩
     ·have hk7:k=1∨k=2∨k=3∨k=4∨k=5∨k=6∨k=7:=oM
      clear hk h0 h8
      rcases hk7 with rfl|rfl|rfl|rfl|rfl|rfl|rfl
      ·have c1:=HE.out.c1
       simp only [Ek] at c1
       have f1:=HE.out.f1
       have q0:IntKind.i64.wrap 0=0:=by decide
       have q1:IntKind.i64.wrap 1=1:=by decide
       have q2:IntKind.i64.wrap 2=2:=by decide
       have q3:IntKind.i64.wrap 3=3:=by decide
       have q4:IntKind.i64.wrap 4=4:=by decide
       have q5:IntKind.i64.wrap 5=5:=by decide
       have q6:IntKind.i64.wrap 6=6:=by decide
       have q9:IntKind.i64.wrap 9=9:=by decide
       have q18:IntKind.i64.wrap 18=18:=by decide
       have q27:IntKind.i64.wrap 27=27:=by decide
       have q36:IntKind.i64.wrap 36=36:=by decide
       have q45:IntKind.i64.wrap 45=45:=by decide
       have q54:IntKind.i64.wrap 54=54:=by decide
       have qu:IntKind.u64.wrap 2=2:=by decide
       go_wp2_with fail
       go_region_law (fail)
       go_wp2_with (first|(go_at_call 147;refine (word1_int b x n _ _ (h.below (HS.out.bel.trans (((HE.out.bel.setCell qL _).drew).mono HS.out.bel.size))) (by decide)).mono ?_;rintro e w1 ⟨rfl,rfl⟩)|(go_at_call 208;refine (ones_none _).mono ?_;rintro e w1 ⟨rfl,rfl⟩))
       go_roundg 6
       case measure=>go_light;omega
       case rel=>go_light;exact ⟨2,by omega,rfl,by go_num,i64_eq (by rw [if_neg (by omega)]),hid (ES.drew (HE.out.set _ (by decide +kernel)))⟩
      ·have c1:=HE.out.c1
       simp only [Ek] at c1
       have f1:=HE.out.f1
       have q0:IntKind.i64.wrap 0=0:=by decide
       have q1:IntKind.i64.wrap 1=1:=by decide
       have q2:IntKind.i64.wrap 2=2:=by decide
       have q3:IntKind.i64.wrap 3=3:=by decide
       have q4:IntKind.i64.wrap 4=4:=by decide
       have q5:IntKind.i64.wrap 5=5:=by decide
       have q6:IntKind.i64.wrap 6=6:=by decide
       have q9:IntKind.i64.wrap 9=9:=by decide
       have q18:IntKind.i64.wrap 18=18:=by decide
       have q27:IntKind.i64.wrap 27=27:=by decide
       have q36:IntKind.i64.wrap 36=36:=by decide
       have q45:IntKind.i64.wrap 45=45:=by decide
       have q54:IntKind.i64.wrap 54=54:=by decide
       have qu:IntKind.u64.wrap 2=2:=by decide
       go_wp2_with fail
       go_region_law (fail)
       go_wp2_with (first|(go_at_call 147;refine (word1_int b x n _ _ (h.below (HS.out.bel.trans (((HE.out.bel.setCell qL _).drew).mono HS.out.bel.size))) (by decide)).mono ?_;rintro e w1 ⟨rfl,rfl⟩)|(go_at_call 208;refine (ones_none _).mono ?_;rintro e w1 ⟨rfl,rfl⟩))
       go_roundg 5
       case measure=>go_light;omega
       case rel=>go_light;exact ⟨3,by omega,rfl,by go_num,i64_eq (by rw [if_neg (by omega)]),hid (ES.drew (HE.out.set _ (by decide +kernel)))⟩
      ·have c1:=HE.out.c1
       simp only [Ek] at c1
       have f1:=HE.out.f1
       have q0:IntKind.i64.wrap 0=0:=by decide
       have q1:IntKind.i64.wrap 1=1:=by decide
       have q2:IntKind.i64.wrap 2=2:=by decide
       have q3:IntKind.i64.wrap 3=3:=by decide
       have q4:IntKind.i64.wrap 4=4:=by decide
       have q5:IntKind.i64.wrap 5=5:=by decide
       have q6:IntKind.i64.wrap 6=6:=by decide
       have q9:IntKind.i64.wrap 9=9:=by decide
       have q18:IntKind.i64.wrap 18=18:=by decide
       have q27:IntKind.i64.wrap 27=27:=by decide
       have q36:IntKind.i64.wrap 36=36:=by decide
       have q45:IntKind.i64.wrap 45=45:=by decide
       have q54:IntKind.i64.wrap 54=54:=by decide
       have qu:IntKind.u64.wrap 2=2:=by decide
       go_wp2_with fail
       go_region_law (fail)
       go_wp2_with (first|(go_at_call 147;refine (word1_int b x n _ _ (h.below (HS.out.bel.trans (((HE.out.bel.setCell qL _).drew).mono HS.out.bel.size))) (by decide)).mono ?_;rintro e w1 ⟨rfl,rfl⟩)|(go_at_call 208;refine (ones_none _).mono ?_;rintro e w1 ⟨rfl,rfl⟩))
       go_roundg 4
       case measure=>go_light;omega
       case rel=>go_light;exact ⟨4,by omega,rfl,by go_num,i64_eq (by rw [if_neg (by omega)]),hid (ES.drew (HE.out.set _ (by decide +kernel)))⟩
      ·have c1:=HE.out.c1
       simp only [Ek] at c1
       have f1:=HE.out.f1
       have q0:IntKind.i64.wrap 0=0:=by decide
       have q1:IntKind.i64.wrap 1=1:=by decide
       have q2:IntKind.i64.wrap 2=2:=by decide
       have q3:IntKind.i64.wrap 3=3:=by decide
       have q4:IntKind.i64.wrap 4=4:=by decide
       have q5:IntKind.i64.wrap 5=5:=by decide
       have q6:IntKind.i64.wrap 6=6:=by decide
       have q9:IntKind.i64.wrap 9=9:=by decide
       have q18:IntKind.i64.wrap 18=18:=by decide
       have q27:IntKind.i64.wrap 27=27:=by decide
       have q36:IntKind.i64.wrap 36=36:=by decide
       have q45:IntKind.i64.wrap 45=45:=by decide
       have q54:IntKind.i64.wrap 54=54:=by decide
       have qu:IntKind.u64.wrap 2=2:=by decide
       go_wp2_with fail
       go_region_law (fail)
       go_wp2_with (first|(go_at_call 147;refine (word1_int b x n _ _ (h.below (HS.out.bel.trans (((HE.out.bel.setCell qL _).drew).mono HS.out.bel.size))) (by decide)).mono ?_;rintro e w1 ⟨rfl,rfl⟩)|(go_at_call 208;refine (ones_none _).mono ?_;rintro e w1 ⟨rfl,rfl⟩))
       go_roundg 3
       case measure=>go_light;omega
       case rel=>go_light;exact ⟨5,by omega,rfl,by go_num,i64_eq (by rw [if_neg (by omega)]),hid (ES.drew (HE.out.set _ (by decide +kernel)))⟩
      ·have c1:=HE.out.c1
       simp only [Ek] at c1
       have f1:=HE.out.f1
       have q0:IntKind.i64.wrap 0=0:=by decide
       have q1:IntKind.i64.wrap 1=1:=by decide
       have q2:IntKind.i64.wrap 2=2:=by decide
       have q3:IntKind.i64.wrap 3=3:=by decide
       have q4:IntKind.i64.wrap 4=4:=by decide
       have q5:IntKind.i64.wrap 5=5:=by decide
       have q6:IntKind.i64.wrap 6=6:=by decide
       have q9:IntKind.i64.wrap 9=9:=by decide
       have q18:IntKind.i64.wrap 18=18:=by decide
       have q27:IntKind.i64.wrap 27=27:=by decide
       have q36:IntKind.i64.wrap 36=36:=by decide
       have q45:IntKind.i64.wrap 45=45:=by decide
       have q54:IntKind.i64.wrap 54=54:=by decide
       have qu:IntKind.u64.wrap 2=2:=by decide
       go_wp2_with fail
       go_region_law (fail)
       go_wp2_with (first|(go_at_call 147;refine (word1_int b x n _ _ (h.below (HS.out.bel.trans (((HE.out.bel.setCell qL _).drew).mono HS.out.bel.size))) (by decide)).mono ?_;rintro e w1 ⟨rfl,rfl⟩)|(go_at_call 208;refine (ones_none _).mono ?_;rintro e w1 ⟨rfl,rfl⟩))
       go_roundg 2
       case measure=>go_light;omega
       case rel=>go_light;exact ⟨6,by omega,rfl,by go_num,i64_eq (by rw [if_neg (by omega)]),hid (ES.drew (HE.out.set _ (by decide +kernel)))⟩
      ·have c1:=HE.out.c1
       simp only [Ek] at c1
       have f1:=HE.out.f1
       have q0:IntKind.i64.wrap 0=0:=by decide
       have q1:IntKind.i64.wrap 1=1:=by decide
       have q2:IntKind.i64.wrap 2=2:=by decide
       have q3:IntKind.i64.wrap 3=3:=by decide
       have q4:IntKind.i64.wrap 4=4:=by decide
       have q5:IntKind.i64.wrap 5=5:=by decide
       have q6:IntKind.i64.wrap 6=6:=by decide
       have q9:IntKind.i64.wrap 9=9:=by decide
       have q18:IntKind.i64.wrap 18=18:=by decide
       have q27:IntKind.i64.wrap 27=27:=by decide
       have q36:IntKind.i64.wrap 36=36:=by decide
       have q45:IntKind.i64.wrap 45=45:=by decide
       have q54:IntKind.i64.wrap 54=54:=by decide
       have qu:IntKind.u64.wrap 2=2:=by decide
       go_wp2_with fail
       go_region_law (fail)
       go_wp2_with (first|(go_at_call 147;refine (word1_int b x n _ _ (h.below (HS.out.bel.trans (((HE.out.bel.setCell qL _).drew).mono HS.out.bel.size))) (by decide)).mono ?_;rintro e w1 ⟨rfl,rfl⟩)|(go_at_call 208;refine (ones_none _).mono ?_;rintro e w1 ⟨rfl,rfl⟩))
       go_roundg 1
       case measure=>go_light;omega
       case rel=>go_light;exact ⟨7,by omega,rfl,by go_num,i64_eq (by rw [if_neg (by omega)]),hid (ES.drew (HE.out.set _ (by decide +kernel)))⟩
      ·have c1:=HE.out.c1
       simp only [Ek] at c1
       have f1:=HE.out.f1
       have q0:IntKind.i64.wrap 0=0:=by decide
       have q1:IntKind.i64.wrap 1=1:=by decide
       have q2:IntKind.i64.wrap 2=2:=by decide
       have q3:IntKind.i64.wrap 3=3:=by decide
       have q4:IntKind.i64.wrap 4=4:=by decide
       have q5:IntKind.i64.wrap 5=5:=by decide
       have q6:IntKind.i64.wrap 6=6:=by decide
       have q9:IntKind.i64.wrap 9=9:=by decide
       have q18:IntKind.i64.wrap 18=18:=by decide
       have q27:IntKind.i64.wrap 27=27:=by decide
       have q36:IntKind.i64.wrap 36=36:=by decide
       have q45:IntKind.i64.wrap 45=45:=by decide
       have q54:IntKind.i64.wrap 54=54:=by decide
       have qu:IntKind.u64.wrap 2=2:=by decide
       go_wp2_with fail
       go_region_law (fail)
       go_wp2_with (first|(go_at_call 147;refine (word1_int b x n _ _ (h.below (HS.out.bel.trans (((HE.out.bel.setCell qL _).drew).mono HS.out.bel.size))) (by decide)).mono ?_;rintro e w1 ⟨rfl,rfl⟩)|(go_at_call 208;refine (ones_none _).mono ?_;rintro e w1 ⟨rfl,rfl⟩))
       go_roundg 0
       case measure=>go_light;omega
       case rel=>go_light;exact ⟨8,by omega,rfl,by go_num,i64_eq (by rw [if_neg (by omega)]),hid (ES.drew (HE.out.set _ (by decide +kernel)))⟩
  ·have hn0:¬(512:Int)≤(n:Int):=oM
   go_wp2_with (first|(go_at_call 142;refine (rlen_any b x n _ (h.below HR.out.1)).mono ?_;rintro e w1 ⟨rfl,rfl⟩))
   go_ret
   exact ⟨rfl,HR.out.1,HR.out.2⟩
theorem info3: (prog.info? 3).map (fun i=>(i.zero,i.size,i.bytes))=some (some (.int .i64 0),1,8):=by kernel_rfl
theorem noted{w w6:World}{C o gb cap:Nat}(hC:C<w.heap.size)(c0:w.cell? ⟨C,o,none⟩=some (.slice none 0 0))(c1:w.cell? ⟨C,o+1,none⟩=some (.int .i64 0))(f0:w.frozen? ⟨C,o,none⟩=false)(f1:w.frozen? ⟨C,o+1,none⟩=false)(m:Nat)(ho:w6.ownsRow w.heap.size 3 1 (.slice (some ⟨gb,0,none⟩) (0+1) cap) (0+1) ([]++[.int .i64 0]))(hg:((w.drewN m).alloc (.cells #[.int .i64 0] 3)).grownBy w6 (Value.slice none 0 0).ownBlock)(hor:(Value.slice none 0 0).ownBlock=some gb∨gb=((w.drewN m).alloc (.cells #[.int .i64 0] 3)).heap.size)(hlt:gb<w6.heap.size):
  w6.cell? ⟨C,o,none⟩=some (.slice none 0 0)∧w6.cell? ⟨C,o+1,none⟩=some (.int .i64 0)∧w6.frozen? ⟨C,o,none⟩=false∧w6.frozen? ⟨C,o+1,none⟩=false∧w6.cell? ⟨gb,0,none⟩=some (.int .i64 0)∧w.heap.size≤gb∧gb<w6.heap.size∧Below w.heap.size w w6:=by
 have:gb=w.heap.size+1:=by
  rcases hor with h|h
  ·simp [Value.ownBlock] at h
  ·simpa using h
 have b1:Below w.heap.size w ((w.drewN m).alloc (.cells #[.int .i64 0] 3)):=(below_drewN (Below.refl _ w) m).alloc qL _
 have b2:Below w.heap.size w w6:=b1.grown hg b1.size (by simp [Value.ownBlock])
 have g0:=ho.cellAt 0 oM
 simp at g0
 exact ⟨(b2.cell (p:=⟨C,o,none⟩) hC).trans c0,(b2.cell (p:=⟨C,o+1,none⟩) hC).trans c1,(b2.frozen (p:=⟨C,o,none⟩) hC).trans f0,(b2.frozen (p:=⟨C,o+1,none⟩) hC).trans f1,g0,by omega,hlt,b2⟩
theorem note_any(C o v k:Nat)(w:World)(hv:v<256)(hk:pop v=k)(hk1:1≤k)(hk8:k≤8)(c0:w.cell? ⟨C,o,none⟩=some (.slice none 0 0))(c1:w.cell? ⟨C,o+1,none⟩=some (.int .i64 0))(f0:w.frozen? ⟨C,o,none⟩=false)(f1:w.frozen? ⟨C,o+1,none⟩=false)(hC:C<w.heap.size):
  Calls prog 148 #[.pointer (some ⟨C,o,none⟩),.int .u64 (v:Nat),.int .i64 0] w fun e w'=>e=.returned (.tuple #[])∧∃G cap,w'.cell? ⟨C,o,none⟩=some (.slice (some ⟨G,0,none⟩) 1 cap)∧w'.cell? ⟨C,o+1,none⟩=some (.int .i64 (k:Nat))∧w'.cell? ⟨G,0,none⟩=some (.int .i64 0)∧w.heap.size≤G∧G<w'.heap.size∧w.grownBy w' (some C)∧(∀j,j≠o→j≠o+1→w'.cell? ⟨C,j,none⟩=w.cell? ⟨C,j,none⟩ ∧w'.frozen? ⟨C,j,none⟩=w.frozen? ⟨C,j,none⟩):=by
 have hones:=fun w=>ones_full v hv w
 rw [hk] at hones
 have:decide ((0:Int)<(k:Int))=true:=by rw [decide_eq_true_eq];omega
 go_enter func148,ntmps148
 go_wp2_with (first|(go_at_call 208;refine (hones _).mono ?_;rintro e w1 ⟨rfl,rfl⟩))
 have:decide (0<k)=true:=by rw [decide_eq_true_eq];omega
 have:IntKind.i64.wrap 256=256:=by decide
 have:IntKind.i64.wrap 255=255:=by decide
 have:IntKind.i64.wrap 0=0:=by decide
 have:IntKind.i64.wrap (k:Int)=(k:Int):=IntWalk.i64_in _ oM
 obtain ⟨i0,hi0,hz0,hs0,hb0⟩ :=info_parts info3
 go_quiet (fail)
 have hbs:w.heap.size≤((w.drewN nq).alloc (.cells #[.int .i64 0] 3)).heap.size:=by simp
 go_wp2_with (at_builtin;refine wpList_append_lies _ rfl (.tmp 32) (.tmp 35) 31 rfl w.heap.size 3 i0 (.int .i64 0) 1 8 underlying31 hi0 hz0 hs0 hb0 rfl oM (.slice none 0 0) 0 [] rfl (World.ownsRow_nil _ _ _ _) ⟨w.heap.size,0,none⟩ 1 1 [.int .i64 0] rfl rfl (World.news_of_block (heap_alloc_new (w.drewN nq) _)) (by intro u hu;simp at hu;subst hu;rfl) oM (by unfold maxLen;omega) oM hbs _ rfl ?_;intro gb cap w6 ho hg hor hlt;have HN:=hid (noted hC c0 c1 f0 f1 nq ho hg hor hlt);have e0:=HN.out.1;have e1:=HN.out.2.1;have e2:=HN.out.2.2.1;have e3:=HN.out.2.2.2.1;clear ho hg hor hlt)
 obtain ⟨h0,h1,h2,h3,h4,h5,h6,h7⟩ :=HN.out
 have hne:gb≠C:=oM
 have s1:(w6.setCell ⟨C,o,none⟩ (.slice (some ⟨gb,0,none⟩) 1 cap)).cell? ⟨C,o+1,none⟩=some (.int .i64 0):=by simp [go_sem,h1]
 refine bodyPost_end (v:=.tuple #[]) (by simp [results,results148,go_sem]) rfl ⟨rfl,gb,cap,by simp [go_sem,h0,s1],by simp [go_sem,s1],?_,h5,by simpa [World.setCell] using h6,?_,fun j hj1 hj2=>?_⟩
 ·rw [cell_set_ne (by simpa using hne),cell_set_ne (by simpa using hne)];exact h4
 ·exact ⟨h7.os,h7.tape,h7.output,by simpa [World.setCell] using h7.size,fun i hi hne'=>by
   rw [Below.heap_setCell _ _ _ _ (by simp;exact fun e=>hne' (by rw [e])),Below.heap_setCell _ _ _ _ (by simp;exact fun e=>hne' (by rw [e]))];exact h7.block i hi⟩
 ·have a0:w6.cell? ⟨C,j,none⟩=w.cell? ⟨C,j,none⟩ :=h7.cell (p:=⟨C,j,none⟩) hC
  have b0:w6.frozen? ⟨C,j,none⟩=w.frozen? ⟨C,j,none⟩ :=h7.frozen (p:=⟨C,j,none⟩) hC
  refine ⟨?_,?_⟩
  ·rw [qO (by intro e;injection e with _ e;exact hj2 e.symm),qO (by intro e;injection e with _ e;exact hj1 e.symm)];exact a0
  ·rw [World.frozen?_setCell,World.frozen?_setCell];exact b0
theorem Dr.below{w w':World}{p b:Nat}(h:Dr w p b)(hb:Below w.heap.size w w'): Dr w' p b:=by
 obtain ⟨G,cap,h1,h2,h3,h4,h5,h6⟩ :=h
 exact ⟨G,cap,Nat.lt_of_lt_of_le h1 hb.size,Nat.lt_of_lt_of_le h2 hb.size,(hb.cell (p:=⟨p,0,none⟩) h1).trans h3,(hb.cell (p:=⟨p,1,none⟩) h1).trans h4,(hb.cell (p:=⟨G,0,none⟩) h2).trans h5,(hb.cell (p:=⟨G,1,none⟩) h2).trans h6⟩
theorem not_key: ∀x:Nat,x<256→∀n:Nat,n<9→x<2 ^ n→bits .and .u64 (18446744073709551615-(x:Int)) ((2 ^ n-1:Nat):Int)=((2 ^ n-1-x:Nat):Int):=by decide +kernel
theorem pop_not: ∀x:Nat,x<256→∀n:Nat,n<9→x<2 ^ n→pop x=2→pop (2 ^ n-1-x)=n-2:=by decide +kernel
theorem wfield_not(x n:Nat)(hx:x<256)(hn:n<9)(h1:1≤n)(hxn:x<2 ^ n)(w:World): Calls prog 141 #[.int .u64 (18446744073709551615-(x:Int)),.int .i64 0,.int .i64 (n:Nat)] w fun e w'=>e=.returned (.int .u64 (2 ^ n-1-x:Nat))∧∃m,w'=w.drewN m:=by
 have:¬(n:Int)<1:=oM
 have:¬(64:Int)≤(n:Int):=oM
 have:(0:Int)≤(n:Int):=oM
 go_enter func141,ntmps141
 go_wp2
 go_quiet ((go_at_call 202;exact quiet_mine (mask_any n oM _)))
 go_wp2
 go_ret
 exact ⟨ret_u64 (not_key x hx n hn hxn),_,rfl⟩
theorem wfield_not'(x n:Nat)(X:Int)(hx:x<256)(hn:n<9)(h1:1≤n)(hxn:x<2 ^ n)(hX:Hid (X=18446744073709551615-(x:Int)))(w:World): Calls prog 141 #[.int .u64 X,.int .i64 0,.int .i64 (n:Nat)] w fun e w'=>e=.returned (.int .u64 (2 ^ n-1-x:Nat))∧∃m,w'=w.drewN m:=by
 rw [hX.out];exact wfield_not x n hx hn h1 hxn w
theorem xor_key: ∀x:Nat,x<256→bits .xor .u64 (if IntKind.u64.signed=true then -1 else IntKind.u64.max) (x:Int)=18446744073709551615-(x:Int):=by decide +kernel
theorem xor_hid(x:Nat)(hx:x<256): Hid (bits .xor .u64 (if IntKind.u64.signed=true then -1 else IntKind.u64.max) (x:Int)=18446744073709551615-(x:Int)):=hid (xor_key x hx)
def ChC (w:World) (C D z:Nat):Prop:=∃G1 cap1 G0 cap0,C<w.heap.size∧G1<w.heap.size∧G0<w.heap.size∧w.cell? ⟨C,0,none⟩=some (.pointer (some ⟨D,0,none⟩))∧w.cell? ⟨C,1,none⟩=some (.slice (some ⟨G1,0,none⟩) 1 cap1)∧w.cell? ⟨C,2,none⟩=some (.int .i64 2)∧w.cell? ⟨C,3,none⟩=some (.slice (some ⟨G0,0,none⟩) 1 cap0)∧w.cell? ⟨C,4,none⟩=some (.int .i64 (z:Nat))∧w.cell? ⟨G1,0,none⟩=some (.int .i64 0)∧w.cell? ⟨G0,0,none⟩=some (.int .i64 0)
def Ch (w:World) (C b z:Nat):Prop:=∃D,Dr w D b∧ChC w C D z
theorem Ch.below{w w':World}{C b z:Nat}(h:Ch w C b z)(hb:Below w.heap.size w w'): Ch w' C b z:=by
 obtain ⟨D,hD,G1,cap1,G0,cap0,a1,a2,a3,c0,c1,c2,c3,c4,g1,g0⟩ :=h
 exact ⟨D,hD.below hb,G1,cap1,G0,cap0,Nat.lt_of_lt_of_le a1 hb.size,Nat.lt_of_lt_of_le a2 hb.size,Nat.lt_of_lt_of_le a3 hb.size,(hb.cell (p:=⟨C,0,none⟩) a1).trans c0,(hb.cell (p:=⟨C,1,none⟩) a1).trans c1,(hb.cell (p:=⟨C,2,none⟩) a1).trans c2,(hb.cell (p:=⟨C,3,none⟩) a1).trans c3,(hb.cell (p:=⟨C,4,none⟩) a1).trans c4,(hb.cell (p:=⟨G1,0,none⟩) a2).trans g1,(hb.cell (p:=⟨G0,0,none⟩) a3).trans g0⟩
abbrev cnewW (w1:World) (D:Nat):World:=w1.alloc (.cells #[.pointer (some ⟨D,0,none⟩),.slice none 0 0,.int .i64 0,.slice none 0 0,.int .i64 0] 258)
structure N2 (w1:World) (D:Nat) (W:World):Prop where
 bel:Below w1.heap.size w1 W
 hC:w1.heap.size<W.heap.size
 d0:W.cell? ⟨w1.heap.size,0,none⟩=some (.pointer (some ⟨D,0,none⟩))
 one:∃G1 cap1,W.cell? ⟨w1.heap.size,1,none⟩=some (.slice (some ⟨G1,0,none⟩) 1 cap1)∧W.cell? ⟨G1,0,none⟩=some (.int .i64 0)∧w1.heap.size<G1∧G1<W.heap.size
 d2:W.cell? ⟨w1.heap.size,2,none⟩=some (.int .i64 2)
 d3:W.cell? ⟨w1.heap.size,3,none⟩=some (.slice none 0 0)
 d4:W.cell? ⟨w1.heap.size,4,none⟩=some (.int .i64 0)
 f3:W.frozen? ⟨w1.heap.size,3,none⟩=false
 f4:W.frozen? ⟨w1.heap.size,4,none⟩=false
theorem N2.drew{w1 W:World}{D:Nat}(h:N2 w1 D W): N2 w1 D W.drew:=⟨h.bel.drew,h.hC,h.d0,h.one,h.d2,h.d3,h.d4,h.f3,h.f4⟩
theorem N2.drewN{w1 W:World}{D:Nat}(h:N2 w1 D W)(m:Nat): N2 w1 D (W.drewN m):=by
 obtain ⟨G1,cap1,o1,o2,o3,o4⟩ :=h.one
 exact ⟨below_drewN h.bel m,h.hC,by simpa using h.d0,⟨G1,cap1,by simpa using o1,by simpa using o2,o3,o4⟩,by simpa using h.d2,by simpa using h.d3,by simpa using h.d4,by simpa using h.f3,by simpa using h.f4⟩
theorem note_fst(w1:World)(D x:Nat)(hx:x<256)(hp:pop x=2): Calls prog 148 #[.pointer (some ⟨w1.heap.size,1,none⟩),.int .u64 (x:Nat),.int .i64 0] (cnewW w1 D) fun e w2=>e=.returned (.tuple #[])∧N2 w1 D w2:=by
 refine (note_any w1.heap.size 1 x 2 _ hx hp oM oM (by simp [go_sem]) (by simp [go_sem]) (by simp [go_sem]) (by simp [go_sem]) sM).mono ?_
 rintro e w2 ⟨rfl,G1,cap1,a1,a2,a3,a4,a5,hg,hoth⟩
 refine ⟨rfl,((Below.refl _ w1).alloc qL _).grown hg sM (by intro k hk;injection hk with hk;omega),?_,?_,⟨G1,cap1,a1,a3,?_,a5⟩,a2,?_,?_,?_,?_⟩
 ·have:=hg.size;simp at this;omega
 ·exact (hoth 0 oM oM).1.trans (by simp [go_sem])
 ·simp at a4;omega
 ·exact (hoth 3 oM oM).1.trans (by simp [go_sem])
 ·exact (hoth 4 oM oM).1.trans (by simp [go_sem])
 ·exact (hoth 3 oM oM).2.trans (by simp [go_sem])
 ·exact (hoth 4 oM oM).2.trans (by simp [go_sem])
theorem note_snd(w1 W:World)(D y z:Nat)(hy:y<256)(hp:pop y=z)(hz:1≤z)(hz8:z≤8)(HN:N2 w1 D W): Calls prog 148 #[.pointer (some ⟨w1.heap.size,3,none⟩),.int .u64 (y:Nat),.int .i64 0] W fun e w4=>e=.returned (.tuple #[])∧Below w1.heap.size w1 w4∧ChC w4 w1.heap.size D z:=by
 refine (note_any w1.heap.size 3 y z _ hy hp hz hz8 HN.d3 HN.d4 HN.f3 HN.f4 HN.hC).mono ?_
 rintro e w4 ⟨rfl,G0,cap0,b1,b2,b3,b4,b5,hg,hoth⟩
 obtain ⟨G1,cap1,o1,o2,o3,o4⟩ :=HN.one
 have hs:=hg.size
 have hC:=HN.hC
 exact ⟨rfl,HN.bel.grown hg HN.bel.size (by intro k hk;injection hk with hk;omega),G1,cap1,G0,cap0,by omega,by omega,b5,by rw [(hoth 0 (by omega) (by omega)).1];exact HN.d0,by rw [(hoth 1 (by omega) (by omega)).1];exact o1,by rw [(hoth 2 (by omega) (by omega)).1];exact HN.d2,b1,b2,by rw [World.grownBy.cell_far hg ⟨G1,0,none⟩ o4 (by intro e;injection e with e;simp at e;omega)];exact o2,b3⟩
theorem cnew_any(b x n z:Nat)(w:World)(h:Rw w b x n)(hx:x<256)(hn:n<9)(hn3:3≤n)(hp:pop x=2)(hxn:x<2 ^ n)(hz:z+2=n): Calls prog 78 #[.pointer (some ⟨b,0,none⟩)] w fun e w'=>∃C,e=.returned (.pointer (some ⟨C,0,none⟩))∧Below w.heap.size w w'∧Ch w' C b z:=by
 obtain ⟨y,hy⟩:∃y,2 ^ n-1-x=y:=⟨_,rfl⟩
 have hpy:pop y=z:=by rw [←hy,pop_not x hx n hn hxn hp];omega
 have hy2:y<256:=by
  have:2 ^ n≤2 ^ 8:=Nat.pow_le_pow_right (by decide) oM
  omega
 have hwf:=fun X (hX:Hid (X=18446744073709551615-(x:Int))) w=>wfield_not' x n X hx hn oM hxn hX w
 rw [hy] at hwf
 clear hxn hy
 go_enter func78,ntmps78
 go_wp2_with fail
 refine (rnew_any b x n _ h hx hn hp).mono ?_;rintro e w1 ⟨rfl,hb1,hD1⟩
 have HB1:=hid hb1
 have HD1:=hid hD1
 clear hb1 hD1
 go_wp2_with fail
 go_loopg [4,5] 1 (fun g a v wr=>(g=1∧a=.int .i64 0∧wr=cnewW w1 w.heap.size)∨(g=0∧a=.int .i64 64∧Hid (Below w1.heap.size w1 wr∧ChC wr w1.heap.size w.heap.size z)))
 case atStart=>exact .inl ⟨rfl,rfl,rfl⟩
 case round=>
  rcases hrel with ⟨rfl,rfl,rfl⟩|⟨rfl,rfl,HR⟩
  ·have hlt:(0:Int)<(n:Int):=oM
   have hR1:Rw (cnewW w1 w.heap.size) b x n:=(h.below HB1.out).alloc _
   go_wp2_with (first|(go_at_call 142;refine (rlen_any b x n _ hR1).mono ?_;rintro e w2 ⟨rfl,rfl⟩)|(go_at_call 147;refine (word0_any b x n _ hR1).mono ?_;rintro e w2 ⟨rfl,rfl⟩))
   refine (note_fst w1 w.heap.size x hx hp).mono ?_;rintro e w2 ⟨rfl,hn2⟩
   have HN:=hid hn2
   have HNd:=hid hn2.drew
   have HQ2:=hid (h.below (HB1.out.trans (hn2.bel.mono HB1.out.size)))
   have HQ3:=hid ((Hid.out HQ2).below ((Below.refl _ w2).drew))
   have:IntKind.i64.wrap (n:Int)=(n:Int):=IntWalk.i64_in _ oM
   clear hn2
   go_wp2_with fail
   go_region_law ((first|(go_simp;go_at_call 142;refine (rlen_any b x n _ (Hid.out HQ3)).mono ?_;rintro e w9 ⟨rfl,rfl⟩)|(go_simp;go_at_call 141;refine (hwf _ (xor_hid x hx) _).mono ?_;rintro e w3 ⟨rfl,m3,rfl⟩)|(go_simp;go_at_call 148;refine (note_snd w1 _ w.heap.size y z hy2 hpy oM oM ((Hid.out HN).drewN _)).mono ?_;rintro e w4 ⟨rfl,hr⟩;have HR:=hid hr;clear hr)))
   all_goals
    go_wp2_with fail
    go_roundg 0
    case measure=>go_light;omega
    case rel=>go_light;exact .inr ⟨rfl,by go_num,HR⟩
  ·have hlt:¬(64:Int)<(n:Int):=oM
   have hR1:=h.below (HB1.out.trans (HR.out.1.mono HB1.out.size))
   go_wp2_with (first|(go_at_call 142;refine (rlen_any b x n _ hR1).mono ?_;rintro e w2 ⟨rfl,rfl⟩))
   go_ret
   exact ⟨_,rfl,HB1.out.trans (HR.out.1.mono HB1.out.size),_,HD1.out.below HR.out.1,HR.out.2⟩
def Ns (w:World) (p b:Nat):Prop:=∃T C,p<w.heap.size∧w.cell? ⟨p,0,none⟩=some (.pointer (some ⟨b,0,none⟩))∧w.cell? ⟨p,1,none⟩=some (.pointer (some ⟨T,0,none⟩))∧w.cell? ⟨p,2,none⟩=some (.pointer (some ⟨C,0,none⟩))∧Rw w b 3 4∧Tr w T b∧Ch w C b 2
theorem Ns.below{w w':World}{p b:Nat}(h:Ns w p b)(hb:Below w.heap.size w w'): Ns w' p b:=by
 obtain ⟨T,C,a1,c0,c1,c2,hR,hT,hC⟩ :=h
 exact ⟨T,C,Nat.lt_of_lt_of_le a1 hb.size,(hb.cell (p:=⟨p,0,none⟩) a1).trans c0,(hb.cell (p:=⟨p,1,none⟩) a1).trans c1,(hb.cell (p:=⟨p,2,none⟩) a1).trans c2,hR.below hb,hT.below hb,hC.below hb⟩
theorem Ns.drewN{w:World}{p b:Nat}(h:Ns w p b)(m:Nat): Ns (w.drewN m) p b:=h.below (below_drewN qR m)
theorem bxx{w w1 w2:World}(h:Hid (Below w.heap.size w w1))(k:Below w1.heap.size w1 w2): Hid (Below w.heap.size w w2):=hid (h.out.trans (k.mono h.out.size))
theorem nnew_any(b:Nat)(w:World)(h:Rw w b 3 4): Calls prog 43 #[.pointer (some ⟨b,0,none⟩)] w fun e w'=>∃p,e=.returned (.tuple #[.pointer (some ⟨p,0,none⟩),.int .i64 0])∧Below w.heap.size w w'∧Ns w' p b:=by
 go_enter func43,ntmps43
 go_wp2_with fail
 refine (tnew_any b _ h).mono ?_;rintro e w1 ⟨rfl,hb1,ht1⟩
 have HB1:=hid hb1
 have HT1:=hid ht1
 clear hb1 ht1
 go_wp2_with fail
 refine (balanced_any _ b _ (h.below HB1.out) HT1.out).mono ?_;rintro e w2 ⟨rfl,m2,rfl⟩
 go_wp2_with fail
 refine (cnew_any b 3 4 2 _ ((h.below HB1.out).drewN _) oM oM oM (by decide) (by decide) oM).mono ?_;rintro e w3 ⟨C,rfl,hb3,hc3⟩
 have HB3:Hid (Below w1.heap.size w1 w3):=hid ((below_drewN (Below.refl _ w1) m2).trans hb3)
 have HC3:=hid hc3
 clear hb3 hc3
 go_wp2_with fail
 go_ret2
 have ha:Below w3.heap.size w3 (w3.alloc (.cells #[.pointer (some ⟨b,0,none⟩),.pointer (some ⟨w.heap.size,0,none⟩),.pointer (some ⟨C,0,none⟩)] 167)):=qR.alloc qL _
 have hw3:=bxx HB1 HB3.out
 exact ⟨_,rfl,(bxx hw3 ha).out,w.heap.size,C,by simp,by simp [go_sem],by simp [go_sem],by simp [go_sem],(h.below hw3.out).below ha,(HT1.out.below HB3.out).below ha,HC3.out.below ha⟩
theorem node_any(p b i:Nat)(w:World)(h:Ns w p b)(hi:i<4): Calls prog 230 #[.pointer (some ⟨p,0,none⟩),.int .i64 (i:Nat)] w fun e w'=>e=.returned (.bool (3 / 2 ^ i % 2==1))∧∃m,w'=w.drewN m:=by
 obtain ⟨T,C,a1,c0,c1,c2,hR,hT,hC⟩ :=h
 have hg:=fun w h=>get_any b 3 4 i w h oM hi oM
 generalize (3 / 2 ^ i % 2==1)=r at hg ⊢
 go_enter func230,ntmps230
 go_wp2_with (first|(go_at_call 251;refine (hg _ hR).mono ?_;rintro e w1 ⟨rfl,rfl⟩))
 go_ret
 exact ⟨rfl,0,rfl⟩
theorem nclose_any(p b:Nat)(w:World)(h:Ns w p b): Calls prog 231 #[.pointer (some ⟨p,0,none⟩),.int .i64 1] w fun e w'=>e=.returned (.int .i64 2)∧∃m,w'=w.drewN m:=by
 obtain ⟨T,C,a1,c0,c1,c2,hR,hT,hC⟩ :=h
 go_enter func231,ntmps231
 go_wp2_with (first|(go_at_call 291;refine (tforth_any T b _ hR hT).mono ?_;rintro e w1 ⟨rfl,m1,rfl⟩))
 go_ret
 exact ⟨rfl,_,rfl⟩
theorem node_1(p b:Nat)(w:World)(h:Ns w p b): Calls prog 230 #[.pointer (some ⟨p,0,none⟩),.int .i64 1] w fun e w'=>e=.returned (.bool true)∧∃m,w'=w.drewN m:=node_any p b 1 w h oM
theorem node_3(p b:Nat)(w:World)(h:Ns w p b): Calls prog 230 #[.pointer (some ⟨p,0,none⟩),.int .i64 3] w fun e w'=>e=.returned (.bool false)∧∃m,w'=w.drewN m:=node_any p b 3 w h oM
theorem node_0(p b:Nat)(w:World)(h:Ns w p b): Calls prog 230 #[.pointer (some ⟨p,0,none⟩),.int .i64 0] w fun e w'=>e=.returned (.bool true)∧∃m,w'=w.drewN m:=node_any p b 0 w h oM
theorem nClose_any(p b:Nat)(w:World)(h:Ns w p b): Calls prog 166 #[.pointer (some ⟨p,0,none⟩),.int .i64 1] w fun e w'=>e=.returned (.tuple #[.int .i64 2,.int .i64 0])∧∃m,w'=w.drewN m:=by
 go_enter func166,ntmps166
 go_wp2_with fail
 refine (node_1 p b _ h).mono ?_;rintro e w1 ⟨rfl,m1,rfl⟩
 go_wp2_with fail
 refine (nclose_any p b _ (h.drewN _)).mono ?_;rintro e w1 ⟨rfl,m2,rfl⟩
 go_wp2_with fail
 go_ret2
 exact ⟨rfl,_,rfl⟩
theorem nParent_any(p b:Nat)(w:World)(h:Ns w p b): Calls prog 236 #[.pointer (some ⟨p,0,none⟩),.int .i64 1] w fun e w'=>e=.returned (.tuple #[.int .i64 0,.int .i64 0])∧∃m,w'=w.drewN m:=by
 obtain ⟨T,C,a1,c0,c1,c2,hR,hT,hC⟩ :=id h
 go_enter func236,ntmps236
 go_wp2_with fail
 refine (node_1 p b _ h).mono ?_;rintro e w1 ⟨rfl,m1,rfl⟩
 go_wp2_with fail
 refine (tback_any T b _ (hR.drewN _) (hT.drewN _)).mono ?_;rintro e w1 ⟨rfl,m2,rfl⟩
 go_wp2
 go_ret2
 exact ⟨rfl,_,rfl⟩
structure Oth (w w':World) (p g:Nat):Prop where
 size:w.heap.size≤w'.heap.size
 cell:∀a:Addr,a.block<w.heap.size→a.block≠p→a.block≠g→w'.cell? a=w.cell? a
 froz:∀a:Addr,a.block<w.heap.size→a.block≠p→a.block≠g→w'.frozen? a=w.frozen? a
 bel:∀B,B≤p→B≤g→B≤w.heap.size→Below B w w'
structure Bd (w:World) (p g x n:Nat):Prop where
 hp:p<w.heap.size
 c1:w.cell? ⟨p,1,none⟩=some (.int .i64 (n:Nat))
 f0:w.frozen? ⟨p,0,none⟩=false
 f1:w.frozen? ⟨p,1,none⟩=false
 none:n=0→w.cell? ⟨p,0,Option.none⟩=some (.slice Option.none 0 0)∧x=0
 some:0<n→g≠p∧g<w.heap.size∧w.cell? ⟨g,0,Option.none⟩=Option.some (.int .u64 (x:Nat))∧w.frozen? ⟨g,0,Option.none⟩=false∧∃cap,w.cell? ⟨p,0,Option.none⟩=Option.some (.slice (Option.some ⟨g,0,Option.none⟩) 1 cap)
theorem aux_le(f x:Nat): Lib.bitLenAux f x≤f:=by
 induction f generalizing x with
 | zero=>simp [Lib.bitLenAux]
 | succ f ih=>unfold Lib.bitLenAux;split <;> first|omega|(have:=ih (x / 2);omega)
theorem bitLen_le(x k:Nat)(h:x<2 ^ k)(hk:k≤64): Lib.bitLen x≤k:=by
 rw [Lib.bitLen,Lib.bitLenAux_fuel k x h 64 hk];exact aux_le k x
theorem need_small(v k:Nat)(hv:v<2 ^ k)(hk:k≤16)(w:World): Calls prog 139 #[.int .u64 (v:Nat)] w fun e w'=>∃r:Nat,e=.returned (.int .i64 (r:Nat))∧r≤k∧w=w':=by
 have:v<65536:=Nat.lt_of_lt_of_le hv (Nat.pow_le_pow_right (by decide) hk)
 go_enter func139,ntmps139
 go_wp2_with fail
 refine (Tryz.bits_Len64 (v:Int) _ oM oM).mono ?_;rintro e w1 ⟨rfl,rfl⟩
 go_wp2_with fail
 go_ret
 exact ⟨Lib.bitLen v,rfl,bitLen_le v k hv oM,rfl⟩
theorem ofInt_64(a:Nat)(ha:a<18446744073709551616): (BitVec.ofInt 64 (a:Int)).toNat=a:=by
 rw [BitVec.toNat_ofInt];omega
theorem u64_or_nat(a b:Nat)(ha:a<18446744073709551616)(hb:b<18446744073709551616): bits .or .u64 (a:Int) (b:Int)=((a ||| b:Nat):Int):=by
 have:a ||| b<2 ^ 64:=Nat.or_lt_two_pow ha hb
 show IntKind.u64.wrap ((BitVec.ofInt 64 (a:Int) ||| BitVec.ofInt 64 (b:Int)).toNat:Nat)=_
 rw [BitVec.toNat_or,ofInt_64 _ ha,ofInt_64 _ hb,IntKind.wrap_u64]
 omega
theorem or_add(x v n:Nat)(hx:x<2 ^ n): x ||| (v * 2 ^ n)=x+v * 2 ^ n:=by
 have:=Nat.shiftLeft_add_eq_or_of_lt hx v
 rw [Nat.shiftLeft_eq] at this
 rw [Nat.or_comm,←this,Nat.add_comm]
theorem put_next(p g x n v k:Nat)(w:World)(h:Bd w p g x n)(hn:0<n)(hn2:n+k≤60)(hv:v<2 ^ k)(hk:k≤16)(hk1:1≤k)(hx:x<2 ^ n): Calls prog 140 #[.pointer (some ⟨p,0,none⟩),.int .u64 (v:Nat),.int .i64 (k:Nat)] w fun e w'=>e=.returned (.int .i64 0)∧Bd w' p g (x+v * 2 ^ n) (n+k)∧Oth w w' p g:=by
 obtain ⟨q1,q2,q3,q4,cap,q5⟩ :=h.some hn
 have c1:=h.c1
 have f0:=h.f0
 have f1:=h.f1
 have hps:=h.hp
 clear h
 obtain ⟨sh,hsh⟩:∃sh,v * 2 ^ n=sh:=⟨_,rfl⟩
 have:sh<2 ^ 60:=by
  rw [←hsh]
  calc v * 2 ^ n<2 ^ k * 2 ^ n:=Nat.mul_lt_mul_of_pos_right hv (Nat.pow_pos (by decide))
   _=2 ^ (k+n):=by rw [Nat.pow_add]
   _≤2 ^ 60:=Nat.pow_le_pow_right (by decide) oM
 have:x<2 ^ 60:=Nat.lt_of_lt_of_le hx (Nat.pow_le_pow_right (by decide) oM)
 obtain ⟨y,hy⟩:∃y,x+sh=y:=⟨_,rfl⟩
 have:bits .or .u64 (x:Int) (sh:Int)=(y:Int):=by
  rw [u64_or_nat x sh (by omega) (by omega),←hsh,or_add x v n hx,hsh,hy]
 have:IntKind.u64.wrap ((v:Int) * 2 ^ n)=(sh:Int):=by
  have e:((v:Int) * 2 ^ n)=(sh:Int):=by rw [←hsh];simp
  rw [e,IntKind.wrap_u64];omega
 rw [hsh,hy]
 have:IntKind.i64.wrap 0=0:=by decide
 have:¬(k:Int)<0:=oM
 have:¬(64:Int)<(k:Int):=oM
 have:((k:Int)==0)=false:=by rw [beq_eq_false_iff_ne];omega
 have:(n:Int).tmod 64=n:=by rw [Int.tmod_eq_emod_of_nonneg (by omega)];omega
 have:((n:Int)==0)=false:=by rw [beq_eq_false_iff_ne];omega
 have:¬(4294967296:Int)-(n:Int)<(k:Int):=oM
 have:¬(64:Int)<(n:Int)+(k:Int):=oM
 go_enter func140,ntmps140
 go_wp2_with fail
 refine (need_small v k hv hk _).mono ?_;rintro e w1 ⟨r,rfl,hr,rfl⟩
 have:¬(k:Int)<(r:Int):=oM
 go_wp2_with fail
 go_region_law (fail)
 all_goals
  have p1:(w.setCell ⟨g,0,Option.none⟩ (.int .u64 (y:Nat))).cell? ⟨p,1,Option.none⟩=some (.int .i64 (n:Nat)):=by rw [cell_set_ne (by simpa using Ne.symm q1)];exact c1
  have:(w.setCell ⟨g,0,Option.none⟩ (.int .u64 (y:Nat))).frozen? ⟨p,1,Option.none⟩=false:=by rw [World.frozen?_setCell];exact f1
  go_wp2_with fail
  go_ret
  refine ⟨rfl,⟨by simpa [World.setCell] using hps,?_,by simp [go_sem,f0],by simp [go_sem,f1],fun h0=>absurd h0 oM,fun _=>⟨q1,by simpa [World.setCell] using q2,?_,by simp [go_sem,q4],cap,?_⟩⟩,⟨by simp [World.setCell],?_,?_,?_⟩⟩
  ·rw [World.cell?_drew];rw [World.cell?_setCell_same _ _ _ p1];rfl
  ·rw [World.cell?_drew,cell_set_ne (by first|exact Ne.symm q1|exact q1),World.cell?_setCell_same _ _ _ q3]
  ·rw [World.cell?_drew,qO (by simp),cell_set_ne (by simpa using Ne.symm q1)];exact q5
  ·intro a h1 h2 h3
   rw [World.cell?_drew,cell_set_ne h2,cell_set_ne h3]
  ·intro a h1 h2 h3
   simp [go_sem]
  ·intro B h1 h2 h3
   exact ((qR.setCell h2 _).setCell h1 _).drew
theorem put_first(p g v k:Nat)(w:World)(h:Bd w p g 0 0)(hv:v<2 ^ k)(hk:k≤16)(hk1:1≤k): Calls prog 140 #[.pointer (some ⟨p,0,none⟩),.int .u64 (v:Nat),.int .i64 (k:Nat)] w fun e w'=>e=.returned (.int .i64 0)∧∃g,Bd w' p g v k∧w.heap.size≤g∧Oth w w' p g:=by
 obtain ⟨c0,-⟩ :=h.none rfl
 have c1:=h.c1
 have f0:=h.f0
 have f1:=h.f1
 have hps:=h.hp
 clear h
 have:¬(k:Int)<0:=oM
 have:¬(64:Int)<(k:Int):=oM
 have:((k:Int)==0)=false:=by rw [beq_eq_false_iff_ne];omega
 have:¬(4294967296:Int)<(k:Int):=oM
 go_enter func140,ntmps140
 go_wp2_with fail
 refine (need_small v k hv hk _).mono ?_;rintro e w1 ⟨r,rfl,hr,rfl⟩
 have:¬(k:Int)<(r:Int):=oM
 go_wp2_with fail
 generalize (Question.appendCap 1 0 200).cut (w.tape w.drawn (Question.appendCap 1 0 200))=cap
 have hb2:∀(W:World) (x y:Obj),Below W.heap.size W ((W.alloc x).alloc y).drew:=fun W x y=>(((Below.refl _ W).alloc qL _).alloc sM _).drew
 have hfr:∀(a:Addr) (c d:Value) (x y:Obj),a.block<w.heap.size→(((((w.setCell ⟨p,0,none⟩ c).setCell ⟨p,1,none⟩ d).alloc x).alloc y).drew).frozen? a=w.frozen? a:=by
  intro a c d x y ha
  rw [(hb2 ((w.setCell ⟨p,0,none⟩ c).setCell ⟨p,1,none⟩ d) x y).frozen (by simpa [World.setCell] using ha),World.frozen?_setCell,World.frozen?_setCell]
 go_ret
 refine ⟨rfl,w.heap.size+1,⟨by simpa [World.setCell] using Nat.lt_trans hps oM,?_,?_,?_,fun h0=>absurd h0 oM,fun _=>⟨by omega,by simp [World.setCell],?_,?_,cap,?_⟩⟩,by omega,⟨by simp [World.setCell];omega,?_,?_,?_⟩⟩
 ·simp [go_sem,c1,hps]
 ·exact (hfr _ _ _ _ _ hps).trans f0
 ·exact (hfr _ _ _ _ _ hps).trans f1
 ·simp [go_sem]
  rw [Array.getElem?_append_left (by simp)];rfl
 ·simp [go_sem]
 ·simp [go_sem,c0,hps]
 ·intro a h1 h2 h3
  simp [go_sem,h1]
  rw [cell_set_ne h2,cell_set_ne h2]
 ·intro a h1 h2 h3
  exact hfr a _ _ _ _ h1
 ·intro B h1 h2 h3
  exact ((((qR.setCell h1 _).setCell h1 _).alloc (by simpa [World.setCell] using h3) _).alloc (by simp [World.setCell];omega) _).drew
theorem put_any(p g x n v k:Nat)(w:World)(h:Bd w p g x n)(hn2:n+k≤60)(hv:v<2 ^ k)(hk:k≤16)(hk1:1≤k)(hx:x<2 ^ n): Calls prog 140 #[.pointer (some ⟨p,0,none⟩),.int .u64 (v:Nat),.int .i64 (k:Nat)] w fun e w'=>e=.returned (.int .i64 0)∧∃g',Bd w' p g' (x+v * 2 ^ n) (n+k)∧(n=0→w.heap.size≤g')∧(0<n→g'=g)∧Oth w w' p g':=by
 rcases Nat.eq_zero_or_pos n with rfl|h0
 ·obtain ⟨-,rfl⟩ :=h.none rfl
  refine (put_first p g v k w h hv hk hk1).mono ?_
  rintro e w' ⟨rfl,g',a,b,c⟩
  exact ⟨rfl,g',by simpa using a,fun _=>b,fun h=>absurd h oM,c⟩
 ·refine (put_next p g x n v k w h h0 hn2 hv hk hk1 hx).mono ?_
  rintro e w' ⟨rfl,a,b⟩
  exact ⟨rfl,g,a,fun h=>absurd h oM,fun _=>rfl,b⟩
theorem bit_1(p g x n:Nat)(w:World)(h:Bd w p g x n)(hn2:n+1≤60)(hx:x<2 ^ n): Calls prog 71 #[.pointer (some ⟨p,0,none⟩),.bool true] w fun e w'=>e=.returned (.int .i64 0)∧∃g',Bd w' p g' (x+1 * 2 ^ n) (n+1)∧(n=0→w.heap.size≤g')∧(0<n→g'=g)∧Oth w w' p g':=by
 go_enter func71,ntmps71
 go_wp2_with fail
 refine (put_any p g x n 1 1 _ h hn2 oM oM oM hx).mono ?_;rintro e w1 ⟨rfl,g',a,b,c,d⟩
 go_wp2_with fail
 go_ret
 exact ⟨rfl,g',a,b,c,d⟩
theorem bit_0(p g x n:Nat)(w:World)(h:Bd w p g x n)(hn2:n+1≤60)(hx:x<2 ^ n): Calls prog 71 #[.pointer (some ⟨p,0,none⟩),.bool false] w fun e w'=>e=.returned (.int .i64 0)∧∃g',Bd w' p g' x (n+1)∧(n=0→w.heap.size≤g')∧(0<n→g'=g)∧Oth w w' p g':=by
 go_enter func71,ntmps71
 go_wp2_with fail
 refine (put_any p g x n 0 1 _ h hn2 oM oM oM hx).mono ?_;rintro e w1 ⟨rfl,g',a,b,c,d⟩
 go_wp2_with fail
 go_ret
 exact ⟨rfl,g',by simpa using a,b,c,d⟩
theorem blen_any(p g x n:Nat)(w:World)(h:Bd w p g x n): Calls prog 73 #[.pointer (some ⟨p,0,none⟩)] w fun e w'=>e=.returned (.int .i64 (n:Nat))∧w=w':=by
 have c1:=h.c1
 go_enter func73,ntmps73
 go_wp2
 go_ret
 exact ⟨rfl,rfl⟩
theorem info105: (prog.info? 200).map (fun i=>(i.zero,i.size,i.bytes))=some (some (.int .u64 0),1,8):=by kernel_rfl
def R0 (w:World) (b:Nat):Prop:=b<w.heap.size∧w.cell? ⟨b,0,none⟩=some (.slice none 0 0)∧w.cell? ⟨b,1,none⟩=some (.int .i64 0)
theorem R0.below{w w':World}{b:Nat}(h:R0 w b)(hb:Below w.heap.size w w'): R0 w' b:=
 ⟨Nat.lt_of_lt_of_le h.1 hb.size,(hb.cell (p:=⟨b,0,none⟩) h.1).trans h.2.1,(hb.cell (p:=⟨b,1,none⟩) h.1).trans h.2.2⟩
theorem brow_0(p g:Nat)(w:World)(h:Bd w p g 0 0): Calls prog 75 #[.pointer (some ⟨p,0,none⟩)] w fun e w'=>∃b,e=.returned (.pointer (some ⟨b,0,none⟩))∧w.heap.size≤b∧Below w.heap.size w w'∧R0 w' b:=by
 obtain ⟨c0,-⟩ :=h.none rfl
 have c1:=h.c1
 go_enter func75,ntmps75
 go_wp2_with fail
 go_region_law ((first|(go_simp;go_at_call 143;refine (Tryz.slices_Clone_nil 0 0 _).mono ?_;rintro e w1 ⟨rfl,rfl⟩)))
 all_goals
  go_wp2_with fail
  go_ret
  refine ⟨_,rfl,?_,?_,?_,?_,?_⟩
  ·exact qL
  ·exact ((Below.refl _ w).alloc qL _).drew
  ·simp
  ·simp [go_sem]
  ·simp [go_sem]
theorem clone_one(g cap x:Nat)(W:World)(hW:W.cell? ⟨g,0,none⟩=some (.int .u64 (x:Nat))): Calls prog 143 #[.slice (some ⟨g,0,none⟩) 1 cap] W fun e w'=>∃g2 cap2,e=.returned (.slice (some ⟨g2,0,none⟩) 1 cap2)∧W.heap.size≤g2∧g2<w'.heap.size∧w'.cell? ⟨g2,0,none⟩=some (.int .u64 (x:Nat))∧Below W.heap.size W w':=by
 obtain ⟨i0,hi0,hz0,hs0,hb0⟩ :=info_parts info105
 refine (Tryz.slices_Clone i0 (.int .u64 0) 1 8 hi0 hz0 hs0 hb0 rfl oM (fun _=>rfl) g 0 1 cap [.int .u64 (x:Nat)] W rfl (by unfold maxLen;omega) oM (by intro j u hj;match j,hj with|0,hj=>simp at hj;simpa [←hj] using hW) (by intro u hu;simp at hu;subst hu;rfl)).mono ?_
 rintro e w1 ⟨v1,rfl,ho,hv,hb⟩
 obtain ⟨g2,cap2,rfl⟩ :=ownsRow_succ (k:=0) ho
 have a1:=ho.lt g2 rfl
 have a2:=ho.cellAt 0 oM
 simp at a2
 exact ⟨g2,cap2,rfl,a1.1,a1.2,a2,hb⟩
theorem brow_any(p g x n:Nat)(w:World)(h:Bd w p g x n)(hn:0<n): Calls prog 75 #[.pointer (some ⟨p,0,none⟩)] w fun e w'=>∃b,e=.returned (.pointer (some ⟨b,0,none⟩))∧w.heap.size≤b∧Below w.heap.size w w'∧Rw w' b x n:=by
 obtain ⟨q1,q2,q3,q4,cap,q5⟩ :=h.some hn
 have c1:=h.c1
 have hp:=h.hp
 clear h
 go_enter func75,ntmps75
 go_wp2_with fail
 go_region_law ((first|(go_simp;go_at_call 143;refine (clone_one g cap x _ (by exact q3)).mono ?_;rintro e w1 ⟨g2,cap2,rfl,a1,a2,a3,hb⟩;have:w1.cell? ⟨p,1,none⟩=some (.int .i64 (n:Nat)):=(hb.cell (p:=⟨p,1,none⟩) hp).trans c1)))
 all_goals
  go_wp2_with fail
  go_ret
  have hs:w.heap.size≤w1.heap.size:=hb.size
  refine ⟨_,rfl,hs,((((Below.refl _ w).drew).trans hb).alloc hs _),g2,cap2,?_,?_,?_,?_,?_⟩
  ·simp [go_sem]
  ·simp [go_sem]
  ·simp [go_sem,a2,a3]
  ·simp
  ·simp;omega
end
end Go.Proofs.YtjcioljdlfdnbaaGreatDoor
