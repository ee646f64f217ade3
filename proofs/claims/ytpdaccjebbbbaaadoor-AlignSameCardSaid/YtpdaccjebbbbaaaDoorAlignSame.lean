/- The law AlignSame holds of the given program, for every input: no condition of its own. What the row lists of package-level variables is tied to the program's text by the given tie. -/
import Derived.Test.YtpdaccjebbbbaaaDoorLxU
import Derived.Test.YtpdaccjebbbbaaaDoorAlignSameLxA
import Derived.Test.YtpdaccjebbbbaaaDoorCards
import Derived.Test.YtpdaccjebbbbaaaDoorTie
set_option linter.unusedSimpArgs false
set_option linter.unusedVariables false
set_option linter.unusedSectionVars false
set_option linter.unnecessarySimpa false
set_option maxRecDepth 100000
namespace Go.LX
open Go Go.Proofs Go.RowKit Go.ChangeShapes Go.WideShapes Go.ChangeAt Go.Lib
open Go.Proofs.YtpdaccjebbbbaaaDoor
theorem Jwm (os:Os) {H:Type} (enc:TypeId×Value→H):∃ places,DataW.whole enc Tryd.prog ((D9 os).forCall (fun _ _=>0) ⟨#[],#[.slice none 0 0,.int .u8 0],[]⟩).memory Tryd.f5.params.toList Rows.alignSameSpec.vars false #[Value.slice none 0 0,.int .u8 0].toList 8=some ([.nil,.lit (.int .u8 0)],[],places) :=
 ⟨[],by kernel_rfl⟩
theorem Jv0 (os:Os) (started:os.Started) (H:Type) (enc:TypeId×Value→H) (F:Stop.Interp) :
  ReturnsInHanded {} Tryd.checked os 5 .any ((OpenSpec.ofChange Rows.alignSameSpec).preRow enc Tryd.prog Tryd.f5 Rows.alignSameRow.domain false Rows.alignSameRow.laid) (((OpenSpec.ofChange Rows.alignSameSpec).at F).post enc Tryd.prog Tryd.f5 false true false false):=by
 obtain ⟨places,hx⟩:=Jwm os enc;refine returnsInHanded_of_row (C:=Tryd.checked) (s:=OpenSpec.ofChange Rows.alignSameSpec) gOwn started kr Tryd.func5
  (witness_row_atRef (enc:=enc) (C:=Tryd.checked) false (D9 os) #[.slice none 0 0,.int .u8 0] rfl kr kr kr
   (OpenSpec.preRow_of_cond 8 hx kr (fun k hk=>by cases hk) kr (Ma os _))) ?_
 intro W base args ds gs before hval0 hW _ _ hz hL _ _;have hval:∀ (j:Nat) t v,Tryd.f5.params[j]? = some t→args[j]? = some v→Value.okWide Tryd.prog W .any base t v:=hval0;have hW':=hW;obtain ⟨p,q,hA0,hV0,rfl,_,_⟩:=hW
 try clear hL0
 have hA:DataW.TrodAll enc Tryd.prog W 0 (fun _=>true) true Tryd.f5.params.toList args.toList ds p:=hA0;rw [Tryd.params5] at hA hval;obtain ⟨v0,vs0,d0,ds0,p0,q0,e0,rfl,rfl,h0,r0⟩:=trodAll_cons hA;obtain ⟨v1,vs1,d1,ds1,p1,q1,e1,rfl,rfl,h1,r1⟩:=trodAll_cons r0;obtain ⟨rfl,rfl,rfl⟩:=trodAll_nil r1;have hargs:args = #[v0,v1]:=by
  have:args.toList=[v0,v1]:=by rw [e0,e1]
  rw [← Array.toList_inj];exact this
 subst hargs;obtain ⟨a0,f0,k0⟩:=Jr4 (hval 0 _ v0 rfl rfl) h0 hz (j:=0) rfl rfl;obtain ⟨k1,rfl,b1⟩:=argU8 (hval 1 _ v1 rfl rfl);have hcall:=(J0k a0 k1 f0 b1).calls_below (w:=W) (Im:=Ja W) (alG hL) (fun _ h=>h) (vs:=[v0,.int .u8 k1]) rfl (fun i v a hv ha=>by
   match i,hv,ha with
   | 0,hv,ha=>cases hv;cases ha;exact k0
   | 1,hv,ha=>cases hv;cases ha;exact PRep.int _ _
   | i+2,hv,ha=>simp at hv) (fun β w' Im' u hu=>Na hu)
 exact hcall.mono fun e W' ⟨he,hb⟩=>⟨_,he,M7 L2 (s:=Rows.alignSameSpec) rfl (by
  rw [Tryd.params5];intro t ht;simp only [List.mem_cons,List.not_mem_nil,or_false] at ht;rcases ht with rfl | rfl
  all_goals exact ⟨by kernel_rfl,of_decide_eq_true kr⟩) kr Tryd.underlying4 hW' rfl hb⟩
theorem Jz7:Tryd.prog.inPlace 5=Rows.alignSameRow.inPlace:=kr
theorem Juy:Tryd.prog.unfollowed 5=true:=kr
theorem Jzc:Tryd.prog.recurses 5=true:=by unfold Program.recurses;rw [Juy];rfl
theorem Jzd:Tryd.prog.varsNamed 5=Rows.alignSameRow.named:=kr
theorem Jvu:joinedFacts Tryd.prog 5 Tryd.f5 (OpenSpec.ofChange Rows.alignSameSpec).bare Rows.alignSameRow=true:=by
 unfold joinedFacts;rw [Jz7,Juy,Jzc,Jzd]
 kernel_rfl
theorem alignSame_said:Rows.AlignSameSaid :=
 OpenClaim.holds_of_cond 5 Tryd.f5 rfl rfl rfl rfl rfl rfl rfl ⟨rfl,rfl,rfl,rfl,rfl⟩ rfl rfl rfl rfl rfl kr Tryd.func5 Jvu
  (of_decide_eq_true kr) (by unfold Func.isWrapper;first | (rw [if_pos (by decide +kernel)];kernel_rfl)|(rw [if_neg (by decide +kernel)];exact ⟨rfl,rfl⟩))
  (fun os started H enc _ F=>by rw [OpenClaim.pre_eq_preRow];exact Jv0 os started H enc F)
theorem alignSame_plain (f:FuncId) (fn:Func) (hf:Tryd.pinned.checked.prog.funcNamed "loupe/loupelaw18.AlignSame" = some f) (hfn:Tryd.pinned.checked.prog.funcs[f]? = some fn) :
  false=Tryd.pinned.checked.prog.looks []∧∀ (j:Nat) t,fn.params[j]? = some t→Tryd.pinned.checked.prog.wantsStandIn t=false:=by
 obtain rfl:f=5:=Option.some.inj ((show Tryd.prog.funcNamed "loupe/loupelaw18.AlignSame" = some 5 by kernel_rfl).symm.trans hf) |>.symm;obtain rfl:fn=Tryd.f5:=(Option.some.inj (Tryd.func5.symm.trans hfn)).symm;refine ⟨by kernel_rfl,fun j t ht=>?_⟩;rw [Tryd.params5] at ht;have hm:=Array.mem_of_getElem? ht;simp only [List.mem_toArray,List.mem_cons,List.not_mem_nil,or_false] at hm;rcases hm with rfl | rfl
 all_goals exact (show Tryd.prog.wantsStandIn _=false by kernel_rfl)
end Go.LX
namespace Go.Proofs.YtpdaccjebbbbaaaDoor
theorem alignSame_holds:Rows.AlignSameCardSaid :=
 Claim7.holds_tied_plain_at .later [] _ _ _ _ Go.LX.alignSame_said (fun _ h=>by cases h) (by kernel_rfl) (fun _ h=>by cases h) alignSame_row_tie rfl ⟨rfl,rfl⟩ (by kernel_rfl) rfl Go.LX.alignSame_plain (Go.LX.goesBy_none Go.LX.noGoes _)
end Go.Proofs.YtpdaccjebbbbaaaDoor
