/- The law EvalHolds holds of the given program, for every input: no condition of its own. What the row lists of package-level variables is tied to the program's text by the given tie. -/
import Derived.Test.YtaghbedfogiopaaGreatDoorHxM
set_option linter.unusedSimpArgs false
set_option linter.unusedVariables false
set_option linter.unusedSectionVars false
set_option linter.unnecessarySimpa false
set_option maxRecDepth 100000
namespace Go.LX
open Go Go.Proofs Go.Proofs.Tryz Go.RowKit Go.ChangeShapes Go.WideShapes Go.ChangeAt Go.Lib
open Go.Proofs.YtaghbedfogiopaaGreatDoor
theorem Kkh (os:Os) {H:Type} (enc:TypeId×Value->H):∃ places,DataW.whole enc Tryz.prog ((D9 os).forCall (fun _ _=>0) ⟨#[],#[.slice none 0 0,.slice none 0 0,.slice none 0 0],[]⟩).memory Tryz.f4.params.toList Rows.evalHoldsSpec.vars false #[Value.slice none 0 0,.slice none 0 0,.slice none 0 0].toList 8=some ([.nil,.nil,.nil],[],places) :=
 ⟨[],by kernel_rfl⟩
theorem Kkg (os:Os) (started:os.Started) (H:Type) (enc:TypeId×Value->H) (F:Stop.Interp) :
  ReturnsInHanded {} Tryz.checked os 4 .any ((OpenSpec.ofChange Rows.evalHoldsSpec).preRow enc Tryz.prog Tryz.f4 Rows.evalHoldsRow.domain false Rows.evalHoldsRow.laid) (((OpenSpec.ofChange Rows.evalHoldsSpec).at F).post enc Tryz.prog Tryz.f4 false true false false):=by
 obtain ⟨places,hx⟩:=Kkh os enc;refine returnsInHanded_of_row (C:=Tryz.checked) (s:=OpenSpec.ofChange Rows.evalHoldsSpec) gOwn started kr func4
  (witness_row_atRef (enc:=enc) (C:=Tryz.checked) false (D9 os) #[.slice none 0 0,.slice none 0 0,.slice none 0 0] rfl kr kr kr
   (OpenSpec.preRow_of_cond 8 hx kr (fun k hk=>by cases hk) kr (Ma os _))) ?_
 intro W base args ds gs before hval0 hW _ _ hz hL _ _;have hval:∀ (j:Nat) t v,Tryz.f4.params[j]? = some t->args[j]? = some v->Value.okWide Tryz.prog W .any base t v:=hval0;have hW':=hW;obtain ⟨p,q,hA0,hV0,rfl,_,_⟩:=hW
 try clear hL0
 have hA:DataW.TrodAll enc Tryz.prog W 0 (fun _=>true) true Tryz.f4.params.toList args.toList ds p:=hA0;rw[params4] at hA hval;obtain ⟨v0,vs0,d0,ds0,p0,q0,e0,rfl,rfl,h0,r0⟩:=trodAll_cons hA;obtain ⟨v1,vs1,d1,ds1,p1,q1,e1,rfl,rfl,h1,r1⟩:=trodAll_cons r0;obtain ⟨v2,vs2,d2,ds2,p2,q2,e2,rfl,rfl,h2,r2⟩:=trodAll_cons r1;obtain ⟨rfl,rfl,rfl⟩:=trodAll_nil r2;have hargs:args = #[v0,v1,v2]:=by
  have:args.toList=[v0,v1,v2]:=by rw[e0,e1,e2]
  rw[<- Ebo];exact this
 subst hargs;obtain ⟨a0,f0,k0⟩:=Kmf (hval 0 _ v0 rfl rfl) h0 hz (j:=0) rfl rfl;obtain ⟨a1,f1,k1⟩:=Kk2 (hval 1 _ v1 rfl rfl) h1 hz (j:=1) rfl rfl;obtain ⟨a2,f2,k2⟩:=N3 (hval 2 _ v2 rfl rfl) h2 hz (j:=2) rfl rfl;have hcall:=(Kkr a0 a1 a2 f0 f1 f2).calls_below (w:=W) (Im:=Ja W) (Kjm hL) (fun _ h=>h) (vs:=[v0,v1,v2]) rfl (fun i v a hv ha=>by
   match i,hv,ha with
   | 0,hv,ha=>cases hv;cases ha;exact k0
   | 1,hv,ha=>cases hv;cases ha;exact k1
   | 2,hv,ha=>cases hv;cases ha;exact k2
   | i+3,hv,ha=>simp at hv) (fun β w' Im' u hu=>Na hu)
 exact hcall.mono fun e W' ⟨he,hb⟩=>⟨_,he,M7 L2 (s:=Rows.evalHoldsSpec) rfl (by
  rw[params4];intro t ht;simp only[Eam,Ebt,or_false] at ht;rcases ht with rfl | rfl | rfl
  all_goals exact ⟨by kernel_rfl,of_decide_eq_true kr⟩) kr underlying4 hW' rfl hb⟩
theorem Kkq:Tryz.prog.inPlace 4=Rows.evalHoldsRow.inPlace:=kr
theorem Kkd:Tryz.prog.unfollowed 4=true:=kr
theorem Kkp:Tryz.prog.recurses 4=true:=by unfold Program.recurses;rw[Kkd];rfl
theorem Kko:Tryz.prog.varsNamed 4=Rows.evalHoldsRow.named:=kr
theorem Kkf:joinedFacts Tryz.prog 4 Tryz.f4 (OpenSpec.ofChange Rows.evalHoldsSpec).bare Rows.evalHoldsRow=true:=by
 unfold joinedFacts;rw[Kkq,Kkd,Kkp,Kko]
 kernel_rfl
theorem evalHolds_said:Rows.EvalHoldsSaid :=
 OpenClaim.holds_of_cond 4 Tryz.f4 rfl rfl rfl rfl rfl rfl rfl ⟨rfl,rfl,rfl,rfl,rfl⟩ rfl rfl rfl rfl rfl kr func4 Kkf
  (of_decide_eq_true kr) (by unfold Func.isWrapper;first|(rw[if_pos (by decide +kernel)];kernel_rfl)|(rw[if_neg (by decide +kernel)];exact ⟨rfl,rfl⟩))
  (fun os started H enc _ F=>by rw[OpenClaim.pre_eq_preRow];exact Kkg os started H enc F)
theorem evalHolds_plain (f:FuncId) (fn:Func) (hf:Tryz.pinned.checked.prog.funcNamed "loupe/loupelaw10.EvalHolds" = some f) (hfn:Tryz.pinned.checked.prog.funcs[f]? = some fn) :
  true=Tryz.pinned.checked.prog.looks []/\∀ (j:Nat) t,fn.params[j]? = some t->Tryz.pinned.checked.prog.wantsStandIn t=false:=by
 obtain rfl:f=4:=Ea9 ((show Tryz.prog.funcNamed "loupe/loupelaw10.EvalHolds" = some 4 by kernel_rfl).symm.trans hf) |>.symm;obtain rfl:fn=Tryz.f4:=(Ea9 (func4.symm.trans hfn)).symm;refine ⟨by kernel_rfl,fun j t ht=>?_⟩;rw[params4] at ht;have hm:=Array.mem_of_getElem? ht;simp only[List.mem_toArray,Eam,Ebt,or_false] at hm;rcases hm with rfl | rfl | rfl
 all_goals exact (show Tryz.prog.wantsStandIn _=false by kernel_rfl)
end Go.LX
namespace Go.Proofs.YtaghbedfogiopaaGreatDoor
theorem evalHolds_holds:Rows.EvalHoldsCardSaid :=
 Claim7.holds_tied_plain_at .later [] _ _ _ _ Go.LX.evalHolds_said (fun _ h=>by cases h) (by kernel_rfl) (fun _ h=>by cases h) evalHolds_row_tie rfl ⟨rfl,rfl⟩ (by kernel_rfl) rfl Go.LX.evalHolds_plain (Go.LX.goesBy_none Go.LX.noGoes _)
end Go.Proofs.YtaghbedfogiopaaGreatDoor
