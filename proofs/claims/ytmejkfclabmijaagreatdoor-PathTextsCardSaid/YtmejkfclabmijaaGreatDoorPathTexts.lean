/- The law PathTexts holds of the given program, for every input: no condition of its own. What the row lists of package-level variables is tied to the program's text by the given tie. -/
import Derived.Test.YtmejkfclabmijaaGreatDoorPathTextsLxZJ
import Derived.Test.YtmejkfclabmijaaGreatDoorPathTextsLxZI
import Derived.Test.YtmejkfclabmijaaGreatDoorCards
import Derived.Test.YtmejkfclabmijaaGreatDoorTie
set_option linter.unusedSimpArgs false
set_option linter.unusedVariables false
set_option linter.unusedSectionVars false
set_option linter.unnecessarySimpa false
set_option maxRecDepth 100000
namespace Go.LX
open Go Go.Proofs Go.RowKit Go.ChangeShapes Go.WideShapes Go.ChangeAt Go.Lib
open Go.Proofs.YtmejkfclabmijaaGreatDoor
theorem Jb0 (os:Os) {H:Type} (enc:TypeId×Value→H):∃ places,DataW.whole enc Tryz.prog ((Z2 os).forCall (fun _ _=>0) ⟨#[],#[.slice none 0 0,.string ⟨#[]⟩],[]⟩).memory Tryz.f3.params.toList Rows.pathTextsSpec.vars false #[Value.slice none 0 0,.string ⟨#[]⟩].toList 8=some ([.nil,.lit (.string [])],[],places) :=
 ⟨[],by kernel_rfl⟩
theorem Zg (os:Os) (started:os.Started) (H:Type) (enc:TypeId×Value→H) (F:Stop.Interp) :
  ReturnsInHanded {} Tryz.checked os 3 .any ((OpenSpec.ofChange Rows.pathTextsSpec).preRow enc Tryz.prog Tryz.f3 Rows.pathTextsRow.domain false Rows.pathTextsRow.laid) (((OpenSpec.ofChange Rows.pathTextsSpec).at F).post enc Tryz.prog Tryz.f3 false true false false):=by
 obtain ⟨places,hx⟩:=Jb0 os enc
 refine returnsInHanded_of_row (C:=Tryz.checked) (s:=OpenSpec.ofChange Rows.pathTextsSpec) gOwn started (by kernel_rfl) Tryz.func3
  (witness_row_atRef (enc:=enc) (C:=Tryz.checked) false (Z2 os) #[.slice none 0 0,.string ⟨#[]⟩] rfl (by kernel_rfl) (by kernel_rfl) (by kernel_rfl)
   (OpenSpec.preRow_of_cond 8 hx (by kernel_rfl) (fun k hk=>by cases hk) (by kernel_rfl) (Jsz os _))) ?_
 intro W base args ds gs before hval0 hW _ _ hz hL _ _
 have hval:∀ (j:Nat) t v,Tryz.f3.params[j]? = some t→args[j]? = some v→Value.okWide Tryz.prog W .any base t v:=hval0
 have hW':=hW
 obtain ⟨p,q,hA0,hV0,rfl,_,_⟩:=hW
 try clear hL0
 have hA:DataW.TrodAll enc Tryz.prog W 0 (fun _=>true) true Tryz.f3.params.toList args.toList ds p:=hA0
 rw [Tryz.params3] at hA hval
 obtain ⟨v0,vs0,d0,ds0,p0,q0,e0,rfl,rfl,h0,r0⟩:=trodAll_cons hA
 obtain ⟨v1,vs1,d1,ds1,p1,q1,e1,rfl,rfl,h1,r1⟩:=trodAll_cons r0
 obtain ⟨rfl,rfl,rfl⟩:=trodAll_nil r1
 have hargs:args = #[v0,v1]:=by
  have:args.toList=[v0,v1]:=by rw [e0,e1]
  rw [← Array.toList_inj];exact this
 subst hargs
 obtain ⟨a0,f0,k0⟩:=argPath (hval 0 _ v0 rfl rfl) h0 hz (j:=0) rfl rfl
 obtain ⟨s1,rfl,b1⟩:=argStr (hval 1 _ v1 rfl rfl)
 have hcall:=(Jlp a0 s1 f0 b1).calls_below (w:=W) (Im:=Jf4 W) (pathG hL) (fun _ h=>h) (vs:=[v0,.string ⟨⟨s1⟩⟩]) rfl (fun i v a hv ha=>by
   match i,hv,ha with
   | 0,hv,ha=>cases hv;cases ha;exact k0
   | 1,hv,ha=>cases hv;cases ha;exact PRep.str _
   | i+2,hv,ha=>simp at hv) (fun β w' Im' u hu=>rep_bool hu)
 exact hcall.mono fun e W' ⟨he,hb⟩=>⟨_,he,Jtg Jr6 (s:=Rows.pathTextsSpec) rfl (by
  rw [Tryz.params3]
  intro t ht
  simp only [List.mem_cons,List.not_mem_nil,or_false] at ht
  rcases ht with rfl | rfl
  all_goals exact ⟨by kernel_rfl,of_decide_eq_true (by kernel_rfl)⟩) (by kernel_rfl) Tryz.underlying4 hW' rfl hb⟩
theorem Jhk:Tryz.prog.inPlace 3=Rows.pathTextsRow.inPlace:=by kernel_rfl
theorem Yq:Tryz.prog.unfollowed 3=true:=by kernel_rfl
theorem Ji3:Tryz.prog.recurses 3=true:=by unfold Program.recurses;rw [Yq];rfl
theorem Jje:Tryz.prog.varsNamed 3=Rows.pathTextsRow.named:=by kernel_rfl
theorem Ze:joinedFacts Tryz.prog 3 Tryz.f3 (OpenSpec.ofChange Rows.pathTextsSpec).bare Rows.pathTextsRow=true:=by
 unfold joinedFacts
 rw [Jhk,Yq,Ji3,Jje]
 kernel_rfl
theorem pathTexts_said:Rows.PathTextsSaid :=
 OpenClaim.holds_of_cond 3 Tryz.f3 rfl rfl rfl rfl rfl rfl rfl ⟨rfl,rfl,rfl,rfl,rfl⟩ rfl rfl rfl rfl rfl (by kernel_rfl) Tryz.func3 Ze
  (of_decide_eq_true (by kernel_rfl)) (by unfold Func.isWrapper;first | (rw [if_pos (by decide +kernel)];kernel_rfl)|(rw [if_neg (by decide +kernel)];exact ⟨rfl,rfl⟩))
  (fun os started H enc _ F=>by rw [OpenClaim.pre_eq_preRow];exact Zg os started H enc F)
theorem pathTexts_plain (f:FuncId) (fn:Func) (hf:Tryz.pinned.checked.prog.funcNamed "loupe/loupelaw06.PathTexts" = some f) (hfn:Tryz.pinned.checked.prog.funcs[f]? = some fn) :
  true=Tryz.pinned.checked.prog.looks []∧∀ (j:Nat) t,fn.params[j]? = some t→Tryz.pinned.checked.prog.wantsStandIn t=false:=by
 obtain rfl:f=3:=Option.some.inj ((show Tryz.prog.funcNamed "loupe/loupelaw06.PathTexts" = some 3 by kernel_rfl).symm.trans hf) |>.symm
 obtain rfl:fn=Tryz.f3:=(Option.some.inj (Tryz.func3.symm.trans hfn)).symm
 refine ⟨by kernel_rfl,fun j t ht=>?_⟩
 rw [Tryz.params3] at ht
 have hm:=Array.mem_of_getElem? ht
 simp only [List.mem_toArray,List.mem_cons,List.not_mem_nil,or_false] at hm
 rcases hm with rfl | rfl
 all_goals exact (show Tryz.prog.wantsStandIn _=false by kernel_rfl)
end Go.LX
namespace Go.Proofs.YtmejkfclabmijaaGreatDoor
theorem pathTexts_holds:Rows.PathTextsCardSaid :=
 Claim7.holds_tied_plain_at .later [] _ _ _ _ Go.LX.pathTexts_said (fun _ h=>by cases h) (by kernel_rfl) (fun _ h=>by cases h) pathTexts_row_tie rfl ⟨rfl,rfl⟩ (by kernel_rfl) rfl Go.LX.pathTexts_plain (by kernel_rfl)
end Go.Proofs.YtmejkfclabmijaaGreatDoor
