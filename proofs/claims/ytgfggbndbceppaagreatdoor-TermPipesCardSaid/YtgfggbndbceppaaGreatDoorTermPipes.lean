/- The law TermPipes holds of the given program, for every input: no condition of its own. What the row lists of package-level variables is tied to the program's text by the given tie. -/
import Derived.Test.YtgfggbndbceppaaGreatDoorLxY
import Derived.Test.YtgfggbndbceppaaGreatDoorCards
import Derived.Test.YtgfggbndbceppaaGreatDoorTie
set_option linter.unusedSimpArgs false
set_option linter.unusedVariables false
set_option linter.unusedSectionVars false
set_option linter.unnecessarySimpa false
set_option maxRecDepth 100000
namespace Go.LX
open Go Go.Proofs Go.RowKit Go.ChangeShapes Go.WideShapes Go.ChangeAt Go.Lib
open Go.Proofs.YtgfggbndbceppaaGreatDoor
theorem Jw8 (os:Os) {H:Type} (enc:TypeId×Value→H):∃ places,DataW.whole enc Tryz.prog ((D9 os).forCall (fun _ _=>0) ⟨#[],#[.slice none 0 0,.slice none 0 0],[]⟩).memory Tryz.f4.params.toList Rows.termPipesSpec.vars false #[Value.slice none 0 0,.slice none 0 0].toList 8=some ([.nil,.nil],[],places) :=
 ⟨[],by kernel_rfl⟩
theorem Jwo (os:Os) (started:os.Started) (H:Type) (enc:TypeId×Value→H) (F:Stop.Interp) :
  ReturnsInHanded {} Tryz.checked os 4 .any ((OpenSpec.ofChange Rows.termPipesSpec).preRow enc Tryz.prog Tryz.f4 Rows.termPipesRow.domain false Rows.termPipesRow.laid) (((OpenSpec.ofChange Rows.termPipesSpec).at F).post enc Tryz.prog Tryz.f4 false true false false):=by
 obtain ⟨places,hx⟩:=Jw8 os enc;refine returnsInHanded_of_row (C:=Tryz.checked) (s:=OpenSpec.ofChange Rows.termPipesSpec) gOwn started kr Tryz.func4
  (witness_row_atRef (enc:=enc) (C:=Tryz.checked) false (D9 os) #[.slice none 0 0,.slice none 0 0] rfl kr kr kr
   (OpenSpec.preRow_of_cond 8 hx kr (fun k hk=>by cases hk) kr (Ma os _))) ?_
 intro W base args ds gs before hval0 hW _ _ hz hL _ _;have hval:∀ (j:Nat) t v,Tryz.f4.params[j]? = some t→args[j]? = some v→Value.okWide Tryz.prog W .any base t v:=hval0;have hW':=hW;obtain ⟨p,q,hA0,hV0,rfl,_,_⟩:=hW
 try clear hL0
 have hA:DataW.TrodAll enc Tryz.prog W 0 (fun _=>true) true Tryz.f4.params.toList args.toList ds p:=hA0;rw [Tryz.params4] at hA hval;obtain ⟨v0,vs0,d0,ds0,p0,q0,e0,rfl,rfl,h0,r0⟩:=trodAll_cons hA;obtain ⟨v1,vs1,d1,ds1,p1,q1,e1,rfl,rfl,h1,r1⟩:=trodAll_cons r0;obtain ⟨rfl,rfl,rfl⟩:=trodAll_nil r1;have hargs:args = #[v0,v1]:=by
  have:args.toList=[v0,v1]:=by rw [e0,e1]
  rw [← Array.toList_inj];exact this
 subst hargs;obtain ⟨a0,f0,k0⟩:=Jvz (hval 0 _ v0 rfl rfl) h0 hz (j:=0) rfl rfl;obtain ⟨a1,f1,k1⟩:=Jvz (hval 1 _ v1 rfl rfl) h1 hz (j:=1) rfl rfl;have hcall:=(J10 a0 a1 f0 f1).calls_below (w:=W) (Im:=Ja W) (J12 hL) (fun _ h=>h) (vs:=[v0,v1]) rfl (fun i v a hv ha=>by
   match i,hv,ha with
   | 0,hv,ha=>cases hv;cases ha;exact k0
   | 1,hv,ha=>cases hv;cases ha;exact k1
   | i+2,hv,ha=>simp at hv) (fun β w' Im' u hu=>Na hu)
 exact hcall.mono fun e W' ⟨he,hb⟩=>⟨_,he,M7 L2 (s:=Rows.termPipesSpec) rfl (by
  rw [Tryz.params4];intro t ht;simp only [List.mem_cons,List.not_mem_nil,or_false] at ht;rcases ht with rfl | rfl
  all_goals exact ⟨by kernel_rfl,of_decide_eq_true kr⟩) kr Tryz.underlying4 hW' rfl hb⟩
theorem Jz3:Tryz.prog.inPlace 4=Rows.termPipesRow.inPlace:=kr
theorem Jvj:Tryz.prog.unfollowed 4=true:=kr
theorem J0l:Tryz.prog.recurses 4=true:=by unfold Program.recurses;rw [Jvj];rfl
theorem J0d:Tryz.prog.varsNamed 4=Rows.termPipesRow.named:=kr
theorem Jwc:joinedFacts Tryz.prog 4 Tryz.f4 (OpenSpec.ofChange Rows.termPipesSpec).bare Rows.termPipesRow=true:=by
 unfold joinedFacts;rw [Jz3,Jvj,J0l,J0d]
 kernel_rfl
theorem termPipes_said:Rows.TermPipesSaid :=
 OpenClaim.holds_of_cond 4 Tryz.f4 rfl rfl rfl rfl rfl rfl rfl ⟨rfl,rfl,rfl,rfl,rfl⟩ rfl rfl rfl rfl rfl kr Tryz.func4 Jwc
  (of_decide_eq_true kr) (by unfold Func.isWrapper;first | (rw [if_pos (by decide +kernel)];kernel_rfl)|(rw [if_neg (by decide +kernel)];exact ⟨rfl,rfl⟩))
  (fun os started H enc _ F=>by rw [OpenClaim.pre_eq_preRow];exact Jwo os started H enc F)
theorem termPipes_plain (f:FuncId) (fn:Func) (hf:Tryz.pinned.checked.prog.funcNamed "loupe/loupelaw07.TermPipes" = some f) (hfn:Tryz.pinned.checked.prog.funcs[f]? = some fn) :
  true=Tryz.pinned.checked.prog.looks []∧∀ (j:Nat) t,fn.params[j]? = some t→Tryz.pinned.checked.prog.wantsStandIn t=false:=by
 obtain rfl:f=4:=Option.some.inj ((show Tryz.prog.funcNamed "loupe/loupelaw07.TermPipes" = some 4 by kernel_rfl).symm.trans hf) |>.symm;obtain rfl:fn=Tryz.f4:=(Option.some.inj (Tryz.func4.symm.trans hfn)).symm;refine ⟨by kernel_rfl,fun j t ht=>?_⟩;rw [Tryz.params4] at ht;have hm:=Array.mem_of_getElem? ht;simp only [List.mem_toArray,List.mem_cons,List.not_mem_nil,or_false] at hm;rcases hm with rfl | rfl
 all_goals exact (show Tryz.prog.wantsStandIn _=false by kernel_rfl)
end Go.LX
namespace Go.Proofs.YtgfggbndbceppaaGreatDoor
theorem termPipes_holds:Rows.TermPipesCardSaid :=
 Claim7.holds_tied_plain_at .later [] _ _ _ _ Go.LX.termPipes_said (fun _ h=>by cases h) (by kernel_rfl) (fun _ h=>by cases h) termPipes_row_tie rfl ⟨rfl,rfl⟩ (by kernel_rfl) rfl Go.LX.termPipes_plain (Go.LX.goesBy_none Go.LX.noGoes _)
end Go.Proofs.YtgfggbndbceppaaGreatDoor
