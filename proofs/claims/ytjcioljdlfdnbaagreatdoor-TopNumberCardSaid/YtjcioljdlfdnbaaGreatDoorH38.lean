/- The law TopNumber holds of the given program, its listed variables being tied to the program's text by the card: for every input it returns true and leaves its arguments as they were. No further condition. -/
import Derived.Test.YtjcioljdlfdnbaaGreatDoorH00
import Derived.Test.YtjcioljdlfdnbaaGreatDoorH35
import Derived.Test.YtjcioljdlfdnbaaGreatDoorH36
import Derived.Test.YtjcioljdlfdnbaaGreatDoorH37
import Derived.ShutString
import Derived.Deep.DeepHandedRow
set_option linter.unusedVariables false
set_option linter.unusedSimpArgs false
set_option maxRecDepth 100000
set_option maxHeartbeats 2000000
open Go.Proofs.Tryz
namespace Go.Proofs.YtjcioljdlfdnbaaGreatDoor
namespace topNumber
open Go.ChangeShapes Go.WideShapes Go.ChangeAt Go.RowKit
open Go.ChangeMaps (open_string shut_string)
theorem own: ownKnob prog.godebug=none:=by kernel_rfl
theorem gTabType: (prog.globals[6]?).map (·.type)=some 462:=by kernel_rfl
theorem gPowType: (prog.globals[4]?).map (·.type)=some 438:=by kernel_rfl
theorem cells462: prog.cellsOf 462=64:=by kernel_rfl
theorem cells438: prog.cellsOf 438=20:=by kernel_rfl
theorem cells5: prog.cellsOf 5=1:=by kernel_rfl
theorem cells200: prog.cellsOf 200=1:=by kernel_rfl
def zsOf (d:DataW Unit):List Int:=match d with
 | .agg l=>l.map fun|.lit (.int _ z)=>z|_=>0
 | _=>[]
def zs64:List Int:=zsOf Rows.laid_math_bits_deBruijn64tab
theorem zs64_data: (Rows.laid_math_bits_deBruijn64tab:DataW Unit)=Lib.tabData .u8 zs64:=by rfl
theorem pow_data: (Rows.laid_internal_strconv_uint64pow10:DataW Unit)=Lib.tabData .u64 Lib.pow10Tab:=by rfl
theorem cell_lt{W:World}{b c:Nat}{v:Value}(h:W.cell? ⟨b,c,none⟩=some v): b<W.heap.size:=by
 apply Classical.byContradiction
 intro hn
 have hx:W.heap[b]?=none:=by simp;omega
 simp [World.cell?,hx] at h
theorem tab_of{W:World}(hL:laidMetH prog Rows.topNumberRow.laid W): Tab W∧Nn.P10 W:=by
 rw [Go.MakeChecks.laidMetH_plain prog _ W (by kernel_rfl)] at hL
 have h1:laidMet prog (("math/bits.deBruijn64tab",Lib.tabData .u8 zs64)::Rows.topNumberRow.laid.drop 2) W:=by
  rw [←zs64_data]
  exact hL.tail
 have ht:=Lib.tabIs_of_head gTab gTabType underlying462 underlying5 cells5 cells462 h1
 have c0:W.cell? ⟨6,0,none⟩=some (.int .u8 0):=ht.cell gTab 0 (by decide)
 have h2:laidMet prog (("internal/strconv.uint64pow10",Lib.tabData .u64 Lib.pow10Tab)::Rows.topNumberRow.laid.drop 3) W:=by
  rw [←pow_data]
  exact h1.tail
 have hp:=Lib.tabIs_of_head gPow gPowType underlying438 underlying200 cells200 cells438 h2
 exact ⟨⟨cell_lt c0,c0,ht.cell gTab 3 (by decide),ht.cell gTab 7 (by decide),ht.cell gTab 15 (by decide)⟩,hp⟩
theorem contract(H:Type)(enc:TypeId × Value→H)(W:World)(base:Nat)(args:Array Value)(ds gs:List (DataW H))(before:List MemPlace)(hval:∀(j:Nat) t v,f3.params[j]?=some t→args[j]?=some v→Value.okWide prog W .any base t v)(hW:DataW.Whole enc prog f3.params.toList Rows.topNumberSpec.vars false W args.toList ds gs before)(hL:laidMetH prog Rows.topNumberRow.laid W):
  Calls prog 3 args W fun e W'=>∃v,e=.returned v∧Rows.topNumberSpec.post enc prog f3 false true false false W args v W':=by
 have hW':=hW
 obtain ⟨p,q,hA0,hV,rfl,hfz,hnd⟩ :=hW
 have hA:DataW.TrodAll enc prog W 0 (fun _=>true) true f3.params.toList args.toList ds p:=hA0
 rw [Tryz.params3] at hA hval
 obtain ⟨v0,vs0,d0,ds0,p0,q0,hargs,rfl,rfl,h0,r0⟩ :=trodAll_cons hA
 obtain ⟨v1,vs1,d1,ds1,p1,q1,rfl,rfl,rfl,h1,r1⟩ :=trodAll_cons r0
 obtain ⟨rfl,rfl,rfl⟩ :=trodAll_nil r1
 obtain rfl:args=#[v0,v1]:=by cases args;simp_all
 obtain ⟨rfl,rfl⟩ :=trodVars_none hV
 obtain ⟨a0,rfl,rfl,rfl,w0⟩ :=open_string underlying9 (hval 0 9 v0 rfl rfl) h0
 obtain ⟨a1,rfl,rfl,rfl,w1⟩ :=open_int underlying2 (hval 1 2 v1 rfl rfl) h1
 clear hA0
 simp only [List.append_nil] at hW'
 refine (Nn.law_any a0 a1 W (tab_of hL).1 (tab_of hL).2).mono fun e W' ⟨he,hg⟩ =>?_
 subst he
 exact ⟨_,rfl,_,_,_,[],_,[],hW',(trodAll_cons_mk (shut_bool underlying4 _) trodAll_mk0),(trodAll_cons_mk (shut_string underlying9 w0) (trodAll_cons_mk (shut_int underlying2 w1) trodAll_mk0)),rfl,hg.frame _,fun h=>by cases h⟩
theorem laid_met'(os:Os): laidMet prog Rows.topNumberRow.laid ((laidWorld os).forCall (fun _ _=>0) ⟨#[],#[.string ByteArray.empty,.int .i64 0],[]⟩).memory:=by
 rw [←Go.MakeChecks.laidMetH_plain prog _ _ (by kernel_rfl)]
 exact laid_met os
theorem reads(os:Os){H:Type}(enc:TypeId × Value→H): ∃places,DataW.whole enc prog ((laidWorld os).forCall (fun _ _=>0) ⟨#[],#[.string ByteArray.empty,.int .i64 0],[]⟩).memory f3.params.toList Rows.topNumberSpec.vars false #[Value.string ByteArray.empty,.int .i64 0].toList 8=some ([.lit (.string []),.lit (.int .i64 0)],[],places):=
 ⟨[],by kernel_rfl⟩
theorem lifted(os:Os)(started:os.Started)(H:Type)(enc:TypeId × Value→H)(F:Stop.Interp):
  ReturnsInHanded {} Tryz.checked os 3 .any ((OpenSpec.ofChange Rows.topNumberSpec).preRow enc prog f3 Rows.topNumberRow.domain false Rows.topNumberRow.laid) (((OpenSpec.ofChange Rows.topNumberSpec).at F).post enc prog f3 false true false false):=by
 obtain ⟨places,hx⟩ :=reads os enc
 refine returnsInHanded_of_row (C:=Tryz.checked) (s:=OpenSpec.ofChange Rows.topNumberSpec) own started (by kernel_rfl) func3
  (witness_row_at (enc:=enc) (C:=Tryz.checked) false (laidWorld os) #[.string ByteArray.empty,.int .i64 0] rfl (by kernel_rfl) (by kernel_rfl) (by kernel_rfl)
   (OpenSpec.preRow_of_cond 8 hx (by kernel_rfl) (fun k hk=>by cases hk) (by kernel_rfl) (laid_met' os))) ?_
 intro W base args ds gs before hval hW _ _ _ hL _ _
 exact contract H enc W base args ds gs before hval hW hL
theorem closed': joinedFacts Tryz.pinned.checked.prog 3 f3 (OpenSpec.ofChange Rows.topNumberSpec).bare Rows.topNumberRow=true:=closed
theorem said: Rows.TopNumberSaid:=
 OpenClaim.holds_of_cond 3 f3 rfl rfl rfl rfl rfl rfl rfl ⟨rfl,rfl,rfl,rfl,rfl⟩ rfl rfl rfl rfl rfl cardF func3 closed'
  (of_decide_eq_true (by kernel_rfl)) (by unfold Func.isWrapper;first|(rw [if_pos (by decide +kernel)];kernel_rfl)|(rw [if_neg (by decide +kernel)];exact ⟨rfl,rfl⟩))
  (fun os started H enc _ F=>by rw [OpenClaim.pre_eq_preRow];exact lifted os started H enc F)
theorem plain(f:FuncId)(fn:Func)(hf:Tryz.pinned.checked.prog.funcNamed "lacework/laceworktop.TopNumber"=some f)(hfn:Tryz.pinned.checked.prog.funcs[f]?=some fn):
  true=Tryz.pinned.checked.prog.looks []∧∀(j:Nat) t,fn.params[j]?=some t→Tryz.pinned.checked.prog.wantsStandIn t=false:=by
 obtain rfl:f=3:=Option.some.inj (cardF.symm.trans hf) |>.symm
 obtain rfl:fn=f3:=(Option.some.inj (func3.symm.trans hfn)).symm
 refine ⟨cardL,fun j t ht=>?_⟩
 rw [Tryz.params3] at ht
 have hm:t∈#[9,2]:=Array.mem_of_getElem? ht
 simp at hm
 rcases hm with rfl|rfl
 ·exact (show prog.wantsStandIn 9=false by kernel_rfl)
 ·exact (show prog.wantsStandIn 2=false by kernel_rfl)
theorem proved: Rows.TopNumberCardSaid:=
 Claim7.holds_tied_plain_at .later [] _ _ _ _ said (fun _ h=>by cases h) cardW (fun _ h=>by cases h) topNumber_row_tie rfl ⟨rfl,rfl⟩ cardM rfl plain cardG
#print axioms proved
end topNumber
end Go.Proofs.YtjcioljdlfdnbaaGreatDoor
