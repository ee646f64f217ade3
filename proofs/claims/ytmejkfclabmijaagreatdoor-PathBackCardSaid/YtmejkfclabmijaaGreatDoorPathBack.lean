/- The law PathBack holds of the given program, for every input: no condition of its own. What the row lists of package-level variables is tied to the program's text by the given tie. -/
import Derived.Test.YtmejkfclabmijaaGreatDoorPathBackLxZF
import Derived.Test.YtmejkfclabmijaaGreatDoorCards
import Derived.Test.YtmejkfclabmijaaGreatDoorTie
set_option linter.unusedSimpArgs false
set_option linter.unusedVariables false
set_option linter.unusedSectionVars false
set_option linter.unnecessarySimpa false
set_option maxRecDepth 100000
namespace Go.LX
open Go Go.Proofs Go.RowKit Go.ChangeShapes Go.WideShapes Go.ChangeAt Go.Lib
open Go.Proofs.YtmejkfclabmijaaGreatDoor
theorem Jdz (os:Os) {H:Type} (enc:TypeId×Value→H):∃ places,DataW.whole enc Tryz.prog ((Y7 os).forCall (fun _ _=>0) ⟨#[],#[.slice none 0 0,.string ⟨#[]⟩],[]⟩).memory Tryz.f5.params.toList Rows.pathBackSpec.vars false #[Value.slice none 0 0,.string ⟨#[]⟩].toList 8=some ([.nil,.lit (.string [])],[],places) :=
 ⟨[],by kernel_rfl⟩
theorem Ja2 (os:Os) (started:os.Started) (H:Type) (enc:TypeId×Value→H) (F:Stop.Interp) :
  ReturnsInHanded {} Tryz.checked os 5 .any ((OpenSpec.ofChange Rows.pathBackSpec).preRow enc Tryz.prog Tryz.f5 Rows.pathBackRow.domain false Rows.pathBackRow.laid) (((OpenSpec.ofChange Rows.pathBackSpec).at F).post enc Tryz.prog Tryz.f5 false true false false):=by
 obtain ⟨places,hx⟩:=Jdz os enc
 refine returnsInHanded_of_row (C:=Tryz.checked) (s:=OpenSpec.ofChange Rows.pathBackSpec) gOwn started (by kernel_rfl) Tryz.func5
  (witness_row_atRef (enc:=enc) (C:=Tryz.checked) false (Y7 os) #[.slice none 0 0,.string ⟨#[]⟩] rfl (by kernel_rfl) (by kernel_rfl) (by kernel_rfl)
   (OpenSpec.preRow_of_cond 8 hx (by kernel_rfl) (fun k hk=>by cases hk) (by kernel_rfl) (Jqx os _))) ?_
 intro W base args ds gs before hval0 hW _ _ hz hL _ _
 have hval:∀ (j:Nat) t v,Tryz.f5.params[j]? = some t→args[j]? = some v→Value.okWide Tryz.prog W .any base t v:=hval0
 have hW':=hW
 obtain ⟨p,q,hA0,hV0,rfl,_,_⟩:=hW
 try clear hL0
 have hA:DataW.TrodAll enc Tryz.prog W 0 (fun _=>true) true Tryz.f5.params.toList args.toList ds p:=hA0
 rw [Tryz.params5] at hA hval
 obtain ⟨v0,vs0,d0,ds0,p0,q0,e0,rfl,rfl,h0,r0⟩:=trodAll_cons hA
 obtain ⟨v1,vs1,d1,ds1,p1,q1,e1,rfl,rfl,h1,r1⟩:=trodAll_cons r0
 obtain ⟨rfl,rfl,rfl⟩:=trodAll_nil r1
 have hargs:args = #[v0,v1]:=by
  have:args.toList=[v0,v1]:=by rw [e0,e1]
  rw [← Array.toList_inj];exact this
 subst hargs
 obtain ⟨a0,f0,k0⟩:=argPath (hval 0 _ v0 rfl rfl) h0 hz (j:=0) rfl rfl
 obtain ⟨s1,rfl,b1⟩:=argStr (hval 1 _ v1 rfl rfl)
 have hcall:=(Jla a0 s1 f0 b1).calls_below (w:=W) (Im:=Jfz W) (pathG hL) (fun _ h=>h) (vs:=[v0,.string ⟨⟨s1⟩⟩]) rfl (fun i v a hv ha=>by
   match i,hv,ha with
   | 0,hv,ha=>cases hv;cases ha;exact k0
   | 1,hv,ha=>cases hv;cases ha;exact PRep.str _
   | i+2,hv,ha=>simp at hv) (fun β w' Im' u hu=>Jrc hu)
 exact hcall.mono fun e W' ⟨he,hb⟩=>⟨_,he,law_post gLaidOut (s:=Rows.pathBackSpec) rfl (by
  rw [Tryz.params5]
  intro t ht
  simp only [List.mem_cons,List.not_mem_nil,or_false] at ht
  rcases ht with rfl | rfl
  all_goals exact ⟨by kernel_rfl,of_decide_eq_true (by kernel_rfl)⟩) (by kernel_rfl) Tryz.underlying4 hW' rfl hb⟩
theorem Jj1:Tryz.prog.inPlace 5=Rows.pathBackRow.inPlace:=by kernel_rfl
theorem Jam:Tryz.prog.unfollowed 5=true:=by kernel_rfl
theorem Jip:Tryz.prog.recurses 5=true:=by unfold Program.recurses;rw [Jam];rfl
theorem Jil:Tryz.prog.varsNamed 5=Rows.pathBackRow.named:=by kernel_rfl
theorem Ja4:joinedFacts Tryz.prog 5 Tryz.f5 (OpenSpec.ofChange Rows.pathBackSpec).bare Rows.pathBackRow=true:=by
 unfold joinedFacts
 rw [Jj1,Jam,Jip,Jil]
 kernel_rfl
theorem pathBack_said:Rows.PathBackSaid :=
 OpenClaim.holds_of_cond 5 Tryz.f5 rfl rfl rfl rfl rfl rfl rfl ⟨rfl,rfl,rfl,rfl,rfl⟩ rfl rfl rfl rfl rfl (by kernel_rfl) Tryz.func5 Ja4
  (of_decide_eq_true (by kernel_rfl)) (by unfold Func.isWrapper;first | (rw [if_pos (by decide +kernel)];kernel_rfl)|(rw [if_neg (by decide +kernel)];exact ⟨rfl,rfl⟩))
  (fun os started H enc _ F=>by rw [OpenClaim.pre_eq_preRow];exact Ja2 os started H enc F)
theorem pathBack_plain (f:FuncId) (fn:Func) (hf:Tryz.pinned.checked.prog.funcNamed "loupe/loupelaw06.PathBack" = some f) (hfn:Tryz.pinned.checked.prog.funcs[f]? = some fn) :
  true=Tryz.pinned.checked.prog.looks []∧∀ (j:Nat) t,fn.params[j]? = some t→Tryz.pinned.checked.prog.wantsStandIn t=false:=by
 obtain rfl:f=5:=Option.some.inj ((show Tryz.prog.funcNamed "loupe/loupelaw06.PathBack" = some 5 by kernel_rfl).symm.trans hf) |>.symm
 obtain rfl:fn=Tryz.f5:=(Option.some.inj (Tryz.func5.symm.trans hfn)).symm
 refine ⟨by kernel_rfl,fun j t ht=>?_⟩
 rw [Tryz.params5] at ht
 have hm:=Array.mem_of_getElem? ht
 simp only [List.mem_toArray,List.mem_cons,List.not_mem_nil,or_false] at hm
 rcases hm with rfl | rfl
 all_goals exact (show Tryz.prog.wantsStandIn _=false by kernel_rfl)
end Go.LX
namespace Go.Proofs.YtmejkfclabmijaaGreatDoor
theorem pathBack_holds:Rows.PathBackCardSaid :=
 Claim7.holds_tied_plain_at .later [] _ _ _ _ Go.LX.pathBack_said (fun _ h=>by cases h) (by kernel_rfl) (fun _ h=>by cases h) pathBack_row_tie rfl ⟨rfl,rfl⟩ (by kernel_rfl) rfl Go.LX.pathBack_plain (by kernel_rfl)
end Go.Proofs.YtmejkfclabmijaaGreatDoor
