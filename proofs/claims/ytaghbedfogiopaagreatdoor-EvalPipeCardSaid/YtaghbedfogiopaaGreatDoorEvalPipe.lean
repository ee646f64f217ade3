/- EvalPipe -/
import Derived.Test.YtaghbedfogiopaaGreatDoorPxN
set_option linter.unusedSimpArgs false
set_option linter.unusedVariables false
set_option maxRecDepth 100000
namespace Go.LX
open Go Go.Proofs Go.Proofs.Tryz Go.RowKit Go.ChangeShapes Go.WideShapes Go.ChangeAt Go.Lib
open Go.Proofs.YtaghbedfogiopaaGreatDoor
theorem Klf (os:Os) {H:Type} (enc:TypeId×Value->H):∃ places,DataW.whole enc Tryz.prog ((D9 os).forCall (fun _ _=>0) ⟨#[],#[.slice none 0 0,.slice none 0 0,.slice none 0 0],[]⟩).memory Tryz.f6.params.toList Rows.evalPipeSpec.vars false #[Value.slice none 0 0,.slice none 0 0,.slice none 0 0].toList 8=some ([.nil,.nil,.nil],[],places) :=
 ⟨[],by kernel_rfl⟩
theorem Kk8 (os:Os) (started:os.Started) (H:Type) (enc:TypeId×Value->H) (F:Stop.Interp) :
  ReturnsInHanded {} Tryz.checked os 6 .any ((OpenSpec.ofChange Rows.evalPipeSpec).preRow enc Tryz.prog Tryz.f6 Rows.evalPipeRow.domain false Rows.evalPipeRow.laid) (((OpenSpec.ofChange Rows.evalPipeSpec).at F).post enc Tryz.prog Tryz.f6 false true false false):=by
 obtain ⟨places,hx⟩:=Klf os enc;refine returnsInHanded_of_row (C:=Tryz.checked) (s:=OpenSpec.ofChange Rows.evalPipeSpec) gOwn started kr func6
  (witness_row_atRef (enc:=enc) (C:=Tryz.checked) false (D9 os) #[.slice none 0 0,.slice none 0 0,.slice none 0 0] rfl kr kr kr
   (OpenSpec.preRow_of_cond 8 hx kr (fun k hk=>by cases hk) kr (Ma os _))) ?_
 intro W base args ds gs before hval0 hW _ _ hz hL _ _;have hval:∀ (j:Nat) t v,Tryz.f6.params[j]? = some t->args[j]? = some v->Value.okWide Tryz.prog W .any base t v:=hval0;have hW':=hW;obtain ⟨p,q,hA0,hV0,rfl,_,_⟩:=hW
 have hA:DataW.TrodAll enc Tryz.prog W 0 (fun _=>true) true Tryz.f6.params.toList args.toList ds p:=hA0;rw[params6] at hA hval;obtain ⟨v0,vs0,d0,ds0,p0,q0,e0,rfl,rfl,h0,r0⟩:=trodAll_cons hA;obtain ⟨v1,vs1,d1,ds1,p1,q1,e1,rfl,rfl,h1,r1⟩:=trodAll_cons r0;obtain ⟨v2,vs2,d2,ds2,p2,q2,e2,rfl,rfl,h2,r2⟩:=trodAll_cons r1;obtain ⟨rfl,rfl,rfl⟩:=trodAll_nil r2;have hargs:args = #[v0,v1,v2]:=by
  have:args.toList=[v0,v1,v2]:=by rw[e0,e1,e2]
  rw[<- Ebt];exact this
 subst hargs;obtain ⟨a0,f0,k0⟩:=Kme (hval 0 _ v0 rfl rfl) h0 hz (j:=0) rfl rfl;obtain ⟨a1,f1,k1⟩:=Kme (hval 1 _ v1 rfl rfl) h1 hz (j:=1) rfl rfl;obtain ⟨a2,f2,k2⟩:=N3 (hval 2 _ v2 rfl rfl) h2 hz (j:=2) rfl rfl;have hcall:=(Klq a0 a1 a2 f0 f1 f2).calls_below (w:=W) (Im:=Ja W) (Kjm hL) (fun _ h=>h) (vs:=[v0,v1,v2]) rfl (fun i v a hv ha=>by
   match i,hv,ha with
   | 0,hv,ha=>cases hv;cases ha;exact k0
   | 1,hv,ha=>cases hv;cases ha;exact k1
   | 2,hv,ha=>cases hv;cases ha;exact k2
   | i+3,hv,ha=>simp at hv) (fun β w' Im' u hu=>Na hu)
 exact hcall.mono fun e W' ⟨he,hb⟩=>⟨_,he,M7 L2 (s:=Rows.evalPipeSpec) rfl (by
  rw[params6];intro t ht;simp only[Eak,Ebg,or_false] at ht;rcases ht with rfl | rfl | rfl
  all_goals exact ⟨by kernel_rfl,of_decide_eq_true kr⟩) kr underlying4 hW' rfl hb⟩
theorem Kll:Tryz.prog.inPlace 6=Rows.evalPipeRow.inPlace:=kr
theorem Kk7:Tryz.prog.unfollowed 6=true:=kr
theorem Klh:Tryz.prog.recurses 6=true:=by unfold Program.recurses;rw[Kk7];rfl
theorem Kli:Tryz.prog.varsNamed 6=Rows.evalPipeRow.named:=kr
theorem Kk9:joinedFacts Tryz.prog 6 Tryz.f6 (OpenSpec.ofChange Rows.evalPipeSpec).bare Rows.evalPipeRow=true:=by
 unfold joinedFacts;rw[Kll,Kk7,Klh,Kli]
 kernel_rfl
theorem eSa:Rows.EvalPipeSaid :=
 OpenClaim.holds_of_cond 6 Tryz.f6 rfl rfl rfl rfl rfl rfl rfl ⟨rfl,rfl,rfl,rfl,rfl⟩ rfl rfl rfl rfl rfl kr func6 Kk9
  (of_decide_eq_true kr) (by unfold Func.isWrapper;first|(rw[if_pos (by decide +kernel)];kernel_rfl)|(rw[if_neg (by decide +kernel)];exact ⟨rfl,rfl⟩))
  (fun os started H enc _ F=>by rw[OpenClaim.pre_eq_preRow];exact Kk8 os started H enc F)
theorem ePa (f:FuncId) (fn:Func) (hf:Tryz.pinned.checked.prog.funcNamed "loupe/loupelaw10.EvalPipe" = some f) (hfn:Tryz.pinned.checked.prog.funcs[f]? = some fn) :
  true=Tryz.pinned.checked.prog.looks []/\∀ (j:Nat) t,fn.params[j]? = some t->Tryz.pinned.checked.prog.wantsStandIn t=false:=by
 obtain rfl:f=6:=Ebd ((show Tryz.prog.funcNamed "loupe/loupelaw10.EvalPipe" = some 6 by kernel_rfl).symm.trans hf) |>.symm;obtain rfl:fn=Tryz.f6:=(Ebd (func6.symm.trans hfn)).symm;refine ⟨by kernel_rfl,fun j t ht=>?_⟩;rw[params6] at ht;have hm:=Array.mem_of_getElem? ht;simp only[List.mem_toArray,Eak,Ebg,or_false] at hm;rcases hm with rfl | rfl | rfl
 all_goals exact (show Tryz.prog.wantsStandIn _=false by kernel_rfl)
end Go.LX
namespace Go.Proofs.YtaghbedfogiopaaGreatDoor
theorem evalPipe_holds:Rows.EvalPipeCardSaid :=
 Claim7.holds_tied_plain_at .later [] _ _ _ _ Go.LX.eSa (fun _ h=>by cases h) Go.LX.kr (fun _ h=>by cases h) evalPipe_row_tie rfl ⟨rfl,rfl⟩ Go.LX.kr rfl Go.LX.ePa (Go.LX.goesBy_none Go.LX.noGoes _)
end Go.Proofs.YtaghbedfogiopaaGreatDoor
