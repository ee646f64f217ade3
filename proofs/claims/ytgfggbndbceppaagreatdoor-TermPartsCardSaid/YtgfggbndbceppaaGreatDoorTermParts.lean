/- The law TermParts holds of the given program, for every input: no condition of its own. What the row lists of package-level variables is tied to the program's text by the given tie. -/
import Derived.Test.YtgfggbndbceppaaGreatDoorLxY
import Derived.Test.YtgfggbndbceppaaGreatDoorCards
import Derived.Test.YtgfggbndbceppaaGreatDoorTie
set_option linter.unusedSimpArgs false
set_option linter.unusedVariables false
set_option linter.unusedSectionVars false
set_option linter.unnecessarySimpa false
set_option maxRecDepth 100000
namespace Go.LX
open Go Go.Proofs Go.RowKit Go.ChangeShapes Go.WideShapes Go.ChangeAt Go.Lib
open Go.Proofs.YtgfggbndbceppaaGreatDoor
theorem Jw2 (os:Os) {H:Type} (enc:TypeId×Value→H):∃ places,DataW.whole enc Tryz.prog ((D9 os).forCall (fun _ _=>0) ⟨#[],#[.slice none 0 0],[]⟩).memory Tryz.f6.params.toList Rows.termPartsSpec.vars false #[Value.slice none 0 0].toList 8=some ([.nil],[],places) :=
 ⟨[],by kernel_rfl⟩
theorem Jwl (os:Os) (started:os.Started) (H:Type) (enc:TypeId×Value→H) (F:Stop.Interp) :
  ReturnsInHanded {} Tryz.checked os 6 .any ((OpenSpec.ofChange Rows.termPartsSpec).preRow enc Tryz.prog Tryz.f6 Rows.termPartsRow.domain false Rows.termPartsRow.laid) (((OpenSpec.ofChange Rows.termPartsSpec).at F).post enc Tryz.prog Tryz.f6 false true false false):=by
 obtain ⟨places,hx⟩:=Jw2 os enc;refine returnsInHanded_of_row (C:=Tryz.checked) (s:=OpenSpec.ofChange Rows.termPartsSpec) gOwn started kr Tryz.func6
  (witness_row_atRef (enc:=enc) (C:=Tryz.checked) false (D9 os) #[.slice none 0 0] rfl kr kr kr
   (OpenSpec.preRow_of_cond 8 hx kr (fun k hk=>by cases hk) kr (Ma os _))) ?_
 intro W base args ds gs before hval0 hW _ _ hz hL _ _;have hval:∀ (j:Nat) t v,Tryz.f6.params[j]? = some t→args[j]? = some v→Value.okWide Tryz.prog W .any base t v:=hval0;have hW':=hW;obtain ⟨p,q,hA0,hV0,rfl,_,_⟩:=hW
 try clear hL0
 have hA:DataW.TrodAll enc Tryz.prog W 0 (fun _=>true) true Tryz.f6.params.toList args.toList ds p:=hA0;rw [Tryz.params6] at hA hval;obtain ⟨v0,vs0,d0,ds0,p0,q0,e0,rfl,rfl,h0,r0⟩:=trodAll_cons hA;obtain ⟨rfl,rfl,rfl⟩:=trodAll_nil r0;have hargs:args = #[v0]:=by
  have:args.toList=[v0]:=by rw [e0]
  rw [← Array.toList_inj];exact this
 subst hargs;obtain ⟨a0,f0,k0⟩:=Jvz (hval 0 _ v0 rfl rfl) h0 hz (j:=0) rfl rfl;have hcall:=(J1d a0 f0).calls_below (w:=W) (Im:=Ja W) (J12 hL) (fun _ h=>h) (vs:=[v0]) rfl (fun i v a hv ha=>by
   match i,hv,ha with
   | 0,hv,ha=>cases hv;cases ha;exact k0
   | i+1,hv,ha=>simp at hv) (fun β w' Im' u hu=>Na hu)
 exact hcall.mono fun e W' ⟨he,hb⟩=>⟨_,he,M7 L2 (s:=Rows.termPartsSpec) rfl (by
  rw [Tryz.params6];intro t ht;simp only [List.mem_cons,List.not_mem_nil,or_false] at ht;rcases ht with rfl
  all_goals exact ⟨by kernel_rfl,of_decide_eq_true kr⟩) kr Tryz.underlying4 hW' rfl hb⟩
theorem J0c:Tryz.prog.inPlace 6=Rows.termPartsRow.inPlace:=kr
theorem Jvm:Tryz.prog.unfollowed 6=true:=kr
theorem Jz1:Tryz.prog.recurses 6=true:=by unfold Program.recurses;rw [Jvm];rfl
theorem J0i:Tryz.prog.varsNamed 6=Rows.termPartsRow.named:=kr
theorem Jwe:joinedFacts Tryz.prog 6 Tryz.f6 (OpenSpec.ofChange Rows.termPartsSpec).bare Rows.termPartsRow=true:=by
 unfold joinedFacts;rw [J0c,Jvm,Jz1,J0i]
 kernel_rfl
theorem termParts_said:Rows.TermPartsSaid :=
 OpenClaim.holds_of_cond 6 Tryz.f6 rfl rfl rfl rfl rfl rfl rfl ⟨rfl,rfl,rfl,rfl,rfl⟩ rfl rfl rfl rfl rfl kr Tryz.func6 Jwe
  (of_decide_eq_true kr) (by unfold Func.isWrapper;first | (rw [if_pos (by decide +kernel)];kernel_rfl)|(rw [if_neg (by decide +kernel)];exact ⟨rfl,rfl⟩))
  (fun os started H enc _ F=>by rw [OpenClaim.pre_eq_preRow];exact Jwl os started H enc F)
theorem termParts_plain (f:FuncId) (fn:Func) (hf:Tryz.pinned.checked.prog.funcNamed "loupe/loupelaw07.TermParts" = some f) (hfn:Tryz.pinned.checked.prog.funcs[f]? = some fn) :
  true=Tryz.pinned.checked.prog.looks []∧∀ (j:Nat) t,fn.params[j]? = some t→Tryz.pinned.checked.prog.wantsStandIn t=false:=by
 obtain rfl:f=6:=Option.some.inj ((show Tryz.prog.funcNamed "loupe/loupelaw07.TermParts" = some 6 by kernel_rfl).symm.trans hf) |>.symm;obtain rfl:fn=Tryz.f6:=(Option.some.inj (Tryz.func6.symm.trans hfn)).symm;refine ⟨by kernel_rfl,fun j t ht=>?_⟩;rw [Tryz.params6] at ht;have hm:=Array.mem_of_getElem? ht;simp only [List.mem_toArray,List.mem_cons,List.not_mem_nil,or_false] at hm;rcases hm with rfl
 all_goals exact (show Tryz.prog.wantsStandIn _=false by kernel_rfl)
end Go.LX
namespace Go.Proofs.YtgfggbndbceppaaGreatDoor
theorem termParts_holds:Rows.TermPartsCardSaid :=
 Claim7.holds_tied_plain_at .later [] _ _ _ _ Go.LX.termParts_said (fun _ h=>by cases h) (by kernel_rfl) (fun _ h=>by cases h) termParts_row_tie rfl ⟨rfl,rfl⟩ (by kernel_rfl) rfl Go.LX.termParts_plain (Go.LX.goesBy_none Go.LX.noGoes _)
end Go.Proofs.YtgfggbndbceppaaGreatDoor
