/- The law EvalGroups holds of the given program, for every input: no condition of its own. What the row lists of package-level variables is tied to the program's text by the given tie. -/
import Derived.Test.YtaghbedfogiopaaGreatDoorEvalGroupsLxA
set_option linter.unusedSimpArgs false
set_option linter.unusedVariables false
set_option linter.unusedSectionVars false
set_option linter.unnecessarySimpa false
set_option maxRecDepth 100000
namespace Go.LX
open Go Go.Proofs Go.RowKit Go.ChangeShapes Go.WideShapes Go.ChangeAt Go.Lib
open Go.Proofs.YtaghbedfogiopaaGreatDoor
theorem Kh3 (os:Os) {H:Type} (enc:TypeId×Value->H):∃ places,DataW.whole enc Tryz.prog ((D9 os).forCall (fun _ _=>0) ⟨#[],#[.slice none 0 0,.string ⟨#[]⟩],[]⟩).memory Tryz.f8.params.toList Rows.evalGroupsSpec.vars false #[Value.slice none 0 0,.string ⟨#[]⟩].toList 8=some ([.nil,.lit (.string [])],[],places) :=
 ⟨[],by kernel_rfl⟩
theorem Kh0 (os:Os) (started:os.Started) (H:Type) (enc:TypeId×Value->H) (F:Stop.Interp) :
  ReturnsInHanded {} Tryz.checked os 8 .any ((OpenSpec.ofChange Rows.evalGroupsSpec).preRow enc Tryz.prog Tryz.f8 Rows.evalGroupsRow.domain false Rows.evalGroupsRow.laid) (((OpenSpec.ofChange Rows.evalGroupsSpec).at F).post enc Tryz.prog Tryz.f8 false true false false):=by
 obtain ⟨places,hx⟩:=Kh3 os enc;refine returnsInHanded_of_row (C:=Tryz.checked) (s:=OpenSpec.ofChange Rows.evalGroupsSpec) gOwn started kr Tryz.func8
  (witness_row_atRef (enc:=enc) (C:=Tryz.checked) false (D9 os) #[.slice none 0 0,.string ⟨#[]⟩] rfl kr kr kr
   (OpenSpec.preRow_of_cond 8 hx kr (fun k hk=>by cases hk) kr (Ma os _))) ?_
 intro W base args ds gs before hval0 hW _ _ hz hL _ _;have hval:∀ (j:Nat) t v,Tryz.f8.params[j]? = some t->args[j]? = some v->Value.okWide Tryz.prog W .any base t v:=hval0;have hW':=hW;obtain ⟨p,q,hA0,hV0,rfl,_,_⟩:=hW
 try clear hL0
 have hA:DataW.TrodAll enc Tryz.prog W 0 (fun _=>true) true Tryz.f8.params.toList args.toList ds p:=hA0;rw [Tryz.params8] at hA hval;obtain ⟨v0,vs0,d0,ds0,p0,q0,e0,rfl,rfl,h0,r0⟩:=trodAll_cons hA;obtain ⟨v1,vs1,d1,ds1,p1,q1,e1,rfl,rfl,h1,r1⟩:=trodAll_cons r0;obtain ⟨rfl,rfl,rfl⟩:=trodAll_nil r1;have hargs:args = #[v0,v1]:=by
  have:args.toList=[v0,v1]:=by rw [e0,e1]
  rw [<- Ebj];exact this
 subst hargs;obtain ⟨a0,f0,k0⟩:=N3 (hval 0 _ v0 rfl rfl) h0 hz (j:=0) rfl rfl;obtain ⟨s1,rfl,b1⟩:=Kjr (hval 1 _ v1 rfl rfl);have hcall:=(Kiw a0 s1 f0 b1).calls_below (w:=W) (Im:=Ja W) (Kjm hL) (fun _ h=>h) (vs:=[v0,.string ⟨⟨s1⟩⟩]) rfl (fun i v a hv ha=>by
   match i,hv,ha with
   | 0,hv,ha=>cases hv;cases ha;exact k0
   | 1,hv,ha=>cases hv;cases ha;exact PRep.str _
   | i+2,hv,ha=>simp at hv) (fun β w' Im' u hu=>Na hu)
 exact hcall.mono fun e W' ⟨he,hb⟩=>⟨_,he,M7 L2 (s:=Rows.evalGroupsSpec) rfl (by
  rw [Tryz.params8];intro t ht;simp only [Eaj,Ebc,or_false] at ht;rcases ht with rfl | rfl
  all_goals exact ⟨by kernel_rfl,of_decide_eq_true kr⟩) kr Tryz.underlying4 hW' rfl hb⟩
theorem Kij:Tryz.prog.inPlace 8=Rows.evalGroupsRow.inPlace:=kr
theorem Khv:Tryz.prog.unfollowed 8=true:=kr
theorem Kih:Tryz.prog.recurses 8=true:=by unfold Program.recurses;rw [Khv];rfl
theorem Kii:Tryz.prog.varsNamed 8=Rows.evalGroupsRow.named:=kr
theorem Khy:joinedFacts Tryz.prog 8 Tryz.f8 (OpenSpec.ofChange Rows.evalGroupsSpec).bare Rows.evalGroupsRow=true:=by
 unfold joinedFacts;rw [Kij,Khv,Kih,Kii]
 kernel_rfl
theorem evalGroups_said:Rows.EvalGroupsSaid :=
 OpenClaim.holds_of_cond 8 Tryz.f8 rfl rfl rfl rfl rfl rfl rfl ⟨rfl,rfl,rfl,rfl,rfl⟩ rfl rfl rfl rfl rfl kr Tryz.func8 Khy
  (of_decide_eq_true kr) (by unfold Func.isWrapper;first|(rw [if_pos (by decide +kernel)];kernel_rfl)|(rw [if_neg (by decide +kernel)];exact ⟨rfl,rfl⟩))
  (fun os started H enc _ F=>by rw [OpenClaim.pre_eq_preRow];exact Kh0 os started H enc F)
theorem evalGroups_plain (f:FuncId) (fn:Func) (hf:Tryz.pinned.checked.prog.funcNamed "loupe/loupelaw10.EvalGroups" = some f) (hfn:Tryz.pinned.checked.prog.funcs[f]? = some fn) :
  true=Tryz.pinned.checked.prog.looks []/\∀ (j:Nat) t,fn.params[j]? = some t->Tryz.pinned.checked.prog.wantsStandIn t=false:=by
 obtain rfl:f=8:=Ea3 ((show Tryz.prog.funcNamed "loupe/loupelaw10.EvalGroups" = some 8 by kernel_rfl).symm.trans hf) |>.symm;obtain rfl:fn=Tryz.f8:=(Ea3 (Tryz.func8.symm.trans hfn)).symm;refine ⟨by kernel_rfl,fun j t ht=>?_⟩;rw [Tryz.params8] at ht;have hm:=Array.mem_of_getElem? ht;simp only [Edd,Eaj,Ebc,or_false] at hm;rcases hm with rfl | rfl
 all_goals exact (show Tryz.prog.wantsStandIn _=false by kernel_rfl)
end Go.LX
namespace Go.Proofs.YtaghbedfogiopaaGreatDoor
theorem evalGroups_holds:Rows.EvalGroupsCardSaid :=
 Claim7.holds_tied_plain_at .later [] _ _ _ _ Go.LX.evalGroups_said (fun _ h=>by cases h) (by kernel_rfl) (fun _ h=>by cases h) evalGroups_row_tie rfl ⟨rfl,rfl⟩ (by kernel_rfl) rfl Go.LX.evalGroups_plain (Go.LX.goesBy_none Go.LX.noGoes _)
end Go.Proofs.YtaghbedfogiopaaGreatDoor
