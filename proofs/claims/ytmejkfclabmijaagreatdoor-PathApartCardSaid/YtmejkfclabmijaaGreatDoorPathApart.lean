/- The law PathApart holds of the given program, for every input: no condition of its own. What the row lists of package-level variables is tied to the program's text by the given tie. -/
import Derived.Test.YtmejkfclabmijaaGreatDoorLxZ
import Derived.Test.YtmejkfclabmijaaGreatDoorPathApartLxA
import Derived.Test.YtmejkfclabmijaaGreatDoorCards
import Derived.Test.YtmejkfclabmijaaGreatDoorTie
set_option linter.unusedSimpArgs false
set_option linter.unusedVariables false
set_option linter.unusedSectionVars false
set_option linter.unnecessarySimpa false
set_option maxRecDepth 100000
namespace Go.LX
open Go Go.Proofs Go.RowKit Go.ChangeShapes Go.WideShapes Go.ChangeAt Go.Lib
open Go.Proofs.YtmejkfclabmijaaGreatDoor
theorem Pp (os:Os) {H:Type} (enc:TypeId×Value→H):∃ places,DataW.whole enc Tryz.prog ((D9 os).forCall (fun _ _=>0) ⟨#[],#[.agg #[.slice none 0 0,.slice none 0 0],.slice none 0 0,.agg #[.slice none 0 0,.slice none 0 0]],[]⟩).memory Tryz.f7.params.toList Rows.pathApartSpec.vars false #[Value.agg #[.slice none 0 0,.slice none 0 0],.slice none 0 0,.agg #[.slice none 0 0,.slice none 0 0]].toList 8=some ([.agg [.nil,.nil],.nil,.agg [.nil,.nil]],[],places) :=
 ⟨[],by kernel_rfl⟩
theorem Ob (os:Os) (started:os.Started) (H:Type) (enc:TypeId×Value→H) (F:Stop.Interp) :
  ReturnsInHanded {} Tryz.checked os 7 .any ((OpenSpec.ofChange Rows.pathApartSpec).preRow enc Tryz.prog Tryz.f7 Rows.pathApartRow.domain false Rows.pathApartRow.laid) (((OpenSpec.ofChange Rows.pathApartSpec).at F).post enc Tryz.prog Tryz.f7 false true false false):=by
 obtain ⟨places,hx⟩:=Pp os enc
 refine returnsInHanded_of_row (C:=Tryz.checked) (s:=OpenSpec.ofChange Rows.pathApartSpec) gOwn started (by kernel_rfl) Tryz.func7
  (witness_row_atRef (enc:=enc) (C:=Tryz.checked) false (D9 os) #[.agg #[.slice none 0 0,.slice none 0 0],.slice none 0 0,.agg #[.slice none 0 0,.slice none 0 0]] rfl (by kernel_rfl) (by kernel_rfl) (by kernel_rfl)
   (OpenSpec.preRow_of_cond 8 hx (by kernel_rfl) (fun k hk=>by cases hk) (by kernel_rfl) (Ma os _))) ?_
 intro W base args ds gs before hval0 hW _ _ hz hL _ _
 have hval:∀ (j:Nat) t v,Tryz.f7.params[j]? = some t→args[j]? = some v→Value.okWide Tryz.prog W .any base t v:=hval0
 have hW':=hW
 obtain ⟨p,q,hA0,hV0,rfl,_,_⟩:=hW
 try clear hL0
 have hA:DataW.TrodAll enc Tryz.prog W 0 (fun _=>true) true Tryz.f7.params.toList args.toList ds p:=hA0
 rw [Tryz.params7] at hA hval
 obtain ⟨v0,vs0,d0,ds0,p0,q0,e0,rfl,rfl,h0,r0⟩:=trodAll_cons hA
 obtain ⟨v1,vs1,d1,ds1,p1,q1,e1,rfl,rfl,h1,r1⟩:=trodAll_cons r0
 obtain ⟨v2,vs2,d2,ds2,p2,q2,e2,rfl,rfl,h2,r2⟩:=trodAll_cons r1
 obtain ⟨rfl,rfl,rfl⟩:=trodAll_nil r2
 have hargs:args = #[v0,v1,v2]:=by
  have:args.toList=[v0,v1,v2]:=by rw [e0,e1,e2]
  rw [← Array.toList_inj];exact this
 subst hargs
 obtain ⟨a0,c0,f0,g0,k0⟩:=Mx (hval 0 _ v0 rfl rfl) h0 hz (j:=0) rfl rfl
 obtain ⟨a1,f1,k1⟩:=N3 (hval 1 _ v1 rfl rfl) h1 hz (j:=1) rfl rfl
 obtain ⟨a2,c2,f2,g2,k2⟩:=Jm8 (hval 2 _ v2 rfl rfl) h2 hz (j:=2) rfl rfl
 have hcall:=(Yi a0 c0 a1 a2 c2 f0 g0 f1 f2 g2).calls_below (w:=W) (Im:=Ja W) (Jdp hL) (fun _ h=>h) (vs:=[v0,v1,v2]) rfl (fun i v a hv ha=>by
   match i,hv,ha with
   | 0,hv,ha=>cases hv;cases ha;exact k0
   | 1,hv,ha=>cases hv;cases ha;exact k1
   | 2,hv,ha=>cases hv;cases ha;exact k2
   | i+3,hv,ha=>simp at hv) (fun β w' Im' u hu=>Na hu)
 exact hcall.mono fun e W' ⟨he,hb⟩=>⟨_,he,M7 L2 (s:=Rows.pathApartSpec) rfl (by
  rw [Tryz.params7]
  intro t ht
  simp only [List.mem_cons,List.not_mem_nil,or_false] at ht
  rcases ht with rfl | rfl | rfl
  all_goals exact ⟨by kernel_rfl,of_decide_eq_true (by kernel_rfl)⟩) (by kernel_rfl) Tryz.underlying4 hW' rfl hb⟩
theorem Um:Tryz.prog.inPlace 7=Rows.pathApartRow.inPlace:=by kernel_rfl
theorem Ml:Tryz.prog.unfollowed 7=true:=by kernel_rfl
theorem V8:Tryz.prog.recurses 7=true:=by unfold Program.recurses;rw [Ml];rfl
theorem Vi:Tryz.prog.varsNamed 7=Rows.pathApartRow.named:=by kernel_rfl
theorem N1:joinedFacts Tryz.prog 7 Tryz.f7 (OpenSpec.ofChange Rows.pathApartSpec).bare Rows.pathApartRow=true:=by
 unfold joinedFacts
 rw [Um,Ml,V8,Vi]
 kernel_rfl
theorem pathApart_said:Rows.PathApartSaid :=
 OpenClaim.holds_of_cond 7 Tryz.f7 rfl rfl rfl rfl rfl rfl rfl ⟨rfl,rfl,rfl,rfl,rfl⟩ rfl rfl rfl rfl rfl (by kernel_rfl) Tryz.func7 N1
  (of_decide_eq_true (by kernel_rfl)) (by unfold Func.isWrapper;first | (rw [if_pos (by decide +kernel)];kernel_rfl)|(rw [if_neg (by decide +kernel)];exact ⟨rfl,rfl⟩))
  (fun os started H enc _ F=>by rw [OpenClaim.pre_eq_preRow];exact Ob os started H enc F)
theorem pathApart_plain (f:FuncId) (fn:Func) (hf:Tryz.pinned.checked.prog.funcNamed "loupe/loupelaw06.PathApart" = some f) (hfn:Tryz.pinned.checked.prog.funcs[f]? = some fn) :
  true=Tryz.pinned.checked.prog.looks []∧∀ (j:Nat) t,fn.params[j]? = some t→Tryz.pinned.checked.prog.wantsStandIn t=false:=by
 obtain rfl:f=7:=Option.some.inj ((show Tryz.prog.funcNamed "loupe/loupelaw06.PathApart" = some 7 by kernel_rfl).symm.trans hf) |>.symm
 obtain rfl:fn=Tryz.f7:=(Option.some.inj (Tryz.func7.symm.trans hfn)).symm
 refine ⟨by kernel_rfl,fun j t ht=>?_⟩
 rw [Tryz.params7] at ht
 have hm:=Array.mem_of_getElem? ht
 simp only [List.mem_toArray,List.mem_cons,List.not_mem_nil,or_false] at hm
 rcases hm with rfl | rfl | rfl
 all_goals exact (show Tryz.prog.wantsStandIn _=false by kernel_rfl)
end Go.LX
namespace Go.Proofs.YtmejkfclabmijaaGreatDoor
theorem pathApart_holds:Rows.PathApartCardSaid :=
 Claim7.holds_tied_plain_at .later [] _ _ _ _ Go.LX.pathApart_said (fun _ h=>by cases h) (by kernel_rfl) (fun _ h=>by cases h) pathApart_row_tie rfl ⟨rfl,rfl⟩ (by kernel_rfl) rfl Go.LX.pathApart_plain (by kernel_rfl)
end Go.Proofs.YtmejkfclabmijaaGreatDoor
