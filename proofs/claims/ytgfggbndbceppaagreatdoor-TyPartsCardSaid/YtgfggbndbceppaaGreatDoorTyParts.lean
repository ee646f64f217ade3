/- The law TyParts holds of the given program, for every input: no condition of its own. What the row lists of package-level variables is tied to the program's text by the given tie. -/
import Derived.Test.YtgfggbndbceppaaGreatDoorLxX
import Derived.Test.YtgfggbndbceppaaGreatDoorTyPartsLxA
import Derived.Test.YtgfggbndbceppaaGreatDoorCards
import Derived.Test.YtgfggbndbceppaaGreatDoorTie
set_option linter.unusedSimpArgs false
set_option linter.unusedVariables false
set_option linter.unusedSectionVars false
set_option linter.unnecessarySimpa false
set_option maxRecDepth 100000
namespace Go.LX
open Go Go.Proofs Go.RowKit Go.ChangeShapes Go.WideShapes Go.ChangeAt Go.Lib
open Go.Proofs.YtgfggbndbceppaaGreatDoor
theorem J2k (os:Os) {H:Type} (enc:TypeId×Value→H):∃ places,DataW.whole enc Tryz.prog ((D9 os).forCall (fun _ _=>0) ⟨#[],#[.slice none 0 0],[]⟩).memory Tryz.f10.params.toList Rows.tyPartsSpec.vars false #[Value.slice none 0 0].toList 8=some ([.nil],[],places) :=
 ⟨[],by kernel_rfl⟩
theorem J0k (os:Os) (started:os.Started) (H:Type) (enc:TypeId×Value→H) (F:Stop.Interp) :
  ReturnsInHanded {} Tryz.checked os 10 .any ((OpenSpec.ofChange Rows.tyPartsSpec).preRow enc Tryz.prog Tryz.f10 Rows.tyPartsRow.domain false Rows.tyPartsRow.laid) (((OpenSpec.ofChange Rows.tyPartsSpec).at F).post enc Tryz.prog Tryz.f10 false true false false):=by
 obtain ⟨places,hx⟩:=J2k os enc;refine returnsInHanded_of_row (C:=Tryz.checked) (s:=OpenSpec.ofChange Rows.tyPartsSpec) gOwn started krf Tryz.func10
  (witness_row_atRef (enc:=enc) (C:=Tryz.checked) false (D9 os) #[.slice none 0 0] rfl krf krf krf
   (OpenSpec.preRow_of_cond 8 hx krf (fun k hk=>by cases hk) krf (Ma os _))) ?_
 intro W base args ds gs before hval0 hW _ _ hz hL _ _;have hval:∀ (j:Nat) t v,Tryz.f10.params[j]? = some t→args[j]? = some v→Value.okWide Tryz.prog W .any base t v:=hval0;have hW':=hW;obtain ⟨p,q,hA0,hV0,rfl,_,_⟩:=hW
 try clear hL0
 have hA:DataW.TrodAll enc Tryz.prog W 0 (fun _=>true) true Tryz.f10.params.toList args.toList ds p:=hA0;rw [Tryz.params10] at hA hval;obtain ⟨v0,vs0,d0,ds0,p0,q0,e0,rfl,rfl,h0,r0⟩:=trodAll_cons hA;obtain ⟨rfl,rfl,rfl⟩:=trodAll_nil r0;have hargs:args = #[v0]:=by
  have:args.toList=[v0]:=by rw [e0]
  rw [← Array.toList_inj];exact this
 subst hargs;obtain ⟨a0,f0,k0⟩:=J5y (hval 0 _ v0 rfl rfl) h0 hz (j:=0) rfl rfl;have hcall:=(Kbl a0 f0).calls_below (w:=W) (Im:=Ja W) (tyG hL) (fun _ h=>h) (vs:=[v0]) rfl (fun i v a hv ha=>by
   match i,hv,ha with
   | 0,hv,ha=>cases hv;cases ha;exact k0
   | i+1,hv,ha=>simp at hv) (fun β w' Im' u hu=>Na hu)
 exact hcall.mono fun e W' ⟨he,hb⟩=>⟨_,he,M7 L2 (s:=Rows.tyPartsSpec) rfl (by
  rw [Tryz.params10];intro t ht;simp only [List.mem_cons,List.not_mem_nil,or_false] at ht;rcases ht with rfl
  all_goals exact ⟨by kernel_rfl,of_decide_eq_true krf⟩) krf Tryz.underlying4 hW' rfl hb⟩
theorem J74:Tryz.prog.inPlace 10=Rows.tyPartsRow.inPlace:=krf
theorem Jzs:Tryz.prog.unfollowed 10=true:=krf
theorem J89:Tryz.prog.recurses 10=true:=by unfold Program.recurses;rw [Jzs];rfl
theorem J83:Tryz.prog.varsNamed 10=Rows.tyPartsRow.named:=krf
theorem Jz0:joinedFacts Tryz.prog 10 Tryz.f10 (OpenSpec.ofChange Rows.tyPartsSpec).bare Rows.tyPartsRow=true:=by
 unfold joinedFacts;rw [J74,Jzs,J89,J83]
 kernel_rfl
theorem tyParts_said:Rows.TyPartsSaid :=
 OpenClaim.holds_of_cond 10 Tryz.f10 rfl rfl rfl rfl rfl rfl rfl ⟨rfl,rfl,rfl,rfl,rfl⟩ rfl rfl rfl rfl rfl krf Tryz.func10 Jz0
  (of_decide_eq_true krf) (by unfold Func.isWrapper;first | (rw [if_pos (by decide +kernel)];kernel_rfl)|(rw [if_neg (by decide +kernel)];exact ⟨rfl,rfl⟩))
  (fun os started H enc _ F=>by rw [OpenClaim.pre_eq_preRow];exact J0k os started H enc F)
theorem tyParts_plain (f:FuncId) (fn:Func) (hf:Tryz.pinned.checked.prog.funcNamed "loupe/loupelaw12.TyParts" = some f) (hfn:Tryz.pinned.checked.prog.funcs[f]? = some fn) :
  true=Tryz.pinned.checked.prog.looks []∧∀ (j:Nat) t,fn.params[j]? = some t→Tryz.pinned.checked.prog.wantsStandIn t=false:=by
 obtain rfl:f=10:=Option.some.inj ((show Tryz.prog.funcNamed "loupe/loupelaw12.TyParts" = some 10 by kernel_rfl).symm.trans hf) |>.symm;obtain rfl:fn=Tryz.f10:=(Option.some.inj (Tryz.func10.symm.trans hfn)).symm;refine ⟨by kernel_rfl,fun j t ht=>?_⟩;rw [Tryz.params10] at ht;have hm:=Array.mem_of_getElem? ht;simp only [List.mem_toArray,List.mem_cons,List.not_mem_nil,or_false] at hm;rcases hm with rfl
 all_goals exact (show Tryz.prog.wantsStandIn _=false by kernel_rfl)
end Go.LX
namespace Go.Proofs.YtgfggbndbceppaaGreatDoor
theorem tyParts_holds:Rows.TyPartsCardSaid :=
 Claim7.holds_tied_plain_at .later [] _ _ _ _ Go.LX.tyParts_said (fun _ h=>by cases h) (by kernel_rfl) (fun _ h=>by cases h) tyParts_row_tie rfl ⟨rfl,rfl⟩ (by kernel_rfl) rfl Go.LX.tyParts_plain (Go.LX.goesBy_none Go.LX.noGoes _)
end Go.Proofs.YtgfggbndbceppaaGreatDoor
