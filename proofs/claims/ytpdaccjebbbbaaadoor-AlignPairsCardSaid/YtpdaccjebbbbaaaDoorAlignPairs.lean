/- The law AlignPairs holds of the given program, for every input: no condition of its own. What the row lists of package-level variables is tied to the program's text by the given tie. -/
import Derived.Test.YtpdaccjebbbbaaaDoorLxU
import Derived.Test.YtpdaccjebbbbaaaDoorCards
import Derived.Test.YtpdaccjebbbbaaaDoorTie
import Derived.Test.YtpdaccjebbbbaaaDoorAlignPairsLxA
set_option linter.unusedSimpArgs false
set_option linter.unusedVariables false
set_option linter.unusedSectionVars false
set_option linter.unnecessarySimpa false
set_option maxRecDepth 100000
namespace Go.LX
open Go Go.Proofs Go.RowKit Go.ChangeShapes Go.WideShapes Go.ChangeAt Go.Lib
open Go.Proofs.YtpdaccjebbbbaaaDoor
theorem Jvy (os:Os) {H:Type} (enc:TypeId×Value→H):∃ places,DataW.whole enc Tryd.prog ((D9 os).forCall (fun _ _=>0) ⟨#[],#[.slice none 0 0,.slice none 0 0],[]⟩).memory Tryd.f8.params.toList Rows.alignPairsSpec.vars false #[Value.slice none 0 0,.slice none 0 0].toList 8=some ([.nil,.nil],[],places) :=
 ⟨[],by kernel_rfl⟩
theorem Ju8 (os:Os) (started:os.Started) (H:Type) (enc:TypeId×Value→H) (F:Stop.Interp) :
  ReturnsInHanded {} Tryd.checked os 8 .any ((OpenSpec.ofChange Rows.alignPairsSpec).preRow enc Tryd.prog Tryd.f8 Rows.alignPairsRow.domain false Rows.alignPairsRow.laid) (((OpenSpec.ofChange Rows.alignPairsSpec).at F).post enc Tryd.prog Tryd.f8 false true false false):=by
 obtain ⟨places,hx⟩:=Jvy os enc;refine returnsInHanded_of_row (C:=Tryd.checked) (s:=OpenSpec.ofChange Rows.alignPairsSpec) gOwn started kr Tryd.func8
  (witness_row_atRef (enc:=enc) (C:=Tryd.checked) false (D9 os) #[.slice none 0 0,.slice none 0 0] rfl kr kr kr
   (OpenSpec.preRow_of_cond 8 hx kr (fun k hk=>by cases hk) kr (Ma os _))) ?_
 intro W base args ds gs before hval0 hW _ _ hz hL _ _;have hval:∀ (j:Nat) t v,Tryd.f8.params[j]? = some t→args[j]? = some v→Value.okWide Tryd.prog W .any base t v:=hval0;have hW':=hW;obtain ⟨p,q,hA0,hV0,rfl,_,_⟩:=hW
 try clear hL0
 have hA:DataW.TrodAll enc Tryd.prog W 0 (fun _=>true) true Tryd.f8.params.toList args.toList ds p:=hA0;rw [Tryd.params8] at hA hval;obtain ⟨v0,vs0,d0,ds0,p0,q0,e0,rfl,rfl,h0,r0⟩:=trodAll_cons hA;obtain ⟨v1,vs1,d1,ds1,p1,q1,e1,rfl,rfl,h1,r1⟩:=trodAll_cons r0;obtain ⟨rfl,rfl,rfl⟩:=trodAll_nil r1;have hargs:args = #[v0,v1]:=by
  have:args.toList=[v0,v1]:=by rw [e0,e1]
  rw [← Array.toList_inj];exact this
 subst hargs;obtain ⟨a0,f0,k0⟩:=Jr4 (hval 0 _ v0 rfl rfl) h0 hz (j:=0) rfl rfl;obtain ⟨a1,f1,k1⟩:=argU8s (hval 1 _ v1 rfl rfl) h1 hz (j:=1) rfl rfl;have hcall:=(Jy7 a0 a1 f0 f1).calls_below (w:=W) (Im:=Ja W) (alG hL) (fun _ h=>h) (vs:=[v0,v1]) rfl (fun i v a hv ha=>by
   match i,hv,ha with
   | 0,hv,ha=>cases hv;cases ha;exact k0
   | 1,hv,ha=>cases hv;cases ha;exact k1
   | i+2,hv,ha=>simp at hv) (fun β w' Im' u hu=>Na hu)
 exact hcall.mono fun e W' ⟨he,hb⟩=>⟨_,he,M7 L2 (s:=Rows.alignPairsSpec) rfl (by
  rw [Tryd.params8];intro t ht;simp only [List.mem_cons,List.not_mem_nil,or_false] at ht;rcases ht with rfl | rfl
  all_goals exact ⟨by kernel_rfl,of_decide_eq_true kr⟩) kr Tryd.underlying4 hW' rfl hb⟩
theorem Jx0:Tryd.prog.inPlace 8=Rows.alignPairsRow.inPlace:=kr
theorem Juf:Tryd.prog.unfollowed 8=true:=kr
theorem Jx1:Tryd.prog.recurses 8=true:=by unfold Program.recurses;rw [Juf];rfl
theorem Jxz:Tryd.prog.varsNamed 8=Rows.alignPairsRow.named:=kr
theorem Jva:joinedFacts Tryd.prog 8 Tryd.f8 (OpenSpec.ofChange Rows.alignPairsSpec).bare Rows.alignPairsRow=true:=by
 unfold joinedFacts;rw [Jx0,Juf,Jx1,Jxz]
 kernel_rfl
theorem alignPairs_said:Rows.AlignPairsSaid :=
 OpenClaim.holds_of_cond 8 Tryd.f8 rfl rfl rfl rfl rfl rfl rfl ⟨rfl,rfl,rfl,rfl,rfl⟩ rfl rfl rfl rfl rfl kr Tryd.func8 Jva
  (of_decide_eq_true kr) (by unfold Func.isWrapper;first | (rw [if_pos (by decide +kernel)];kernel_rfl)|(rw [if_neg (by decide +kernel)];exact ⟨rfl,rfl⟩))
  (fun os started H enc _ F=>by rw [OpenClaim.pre_eq_preRow];exact Ju8 os started H enc F)
theorem alignPairs_plain (f:FuncId) (fn:Func) (hf:Tryd.pinned.checked.prog.funcNamed "loupe/loupelaw18.AlignPairs" = some f) (hfn:Tryd.pinned.checked.prog.funcs[f]? = some fn) :
  false=Tryd.pinned.checked.prog.looks []∧∀ (j:Nat) t,fn.params[j]? = some t→Tryd.pinned.checked.prog.wantsStandIn t=false:=by
 obtain rfl:f=8:=Option.some.inj ((show Tryd.prog.funcNamed "loupe/loupelaw18.AlignPairs" = some 8 by kernel_rfl).symm.trans hf) |>.symm;obtain rfl:fn=Tryd.f8:=(Option.some.inj (Tryd.func8.symm.trans hfn)).symm;refine ⟨by kernel_rfl,fun j t ht=>?_⟩;rw [Tryd.params8] at ht;have hm:=Array.mem_of_getElem? ht;simp only [List.mem_toArray,List.mem_cons,List.not_mem_nil,or_false] at hm;rcases hm with rfl | rfl
 all_goals exact (show Tryd.prog.wantsStandIn _=false by kernel_rfl)
end Go.LX
namespace Go.Proofs.YtpdaccjebbbbaaaDoor
theorem alignPairs_holds:Rows.AlignPairsCardSaid :=
 Claim7.holds_tied_plain_at .later [] _ _ _ _ Go.LX.alignPairs_said (fun _ h=>by cases h) (by kernel_rfl) (fun _ h=>by cases h) alignPairs_row_tie rfl ⟨rfl,rfl⟩ (by kernel_rfl) rfl Go.LX.alignPairs_plain (Go.LX.goesBy_none Go.LX.noGoes _)
end Go.Proofs.YtpdaccjebbbbaaaDoor
