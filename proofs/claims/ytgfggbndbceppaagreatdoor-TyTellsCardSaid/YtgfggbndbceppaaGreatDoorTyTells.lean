/- The law TyTells holds of the given program, for every input: no condition of its own. What the row lists of package-level variables is tied to the program's text by the given tie. -/
import Derived.Test.YtgfggbndbceppaaGreatDoorLxX
import Derived.Test.YtgfggbndbceppaaGreatDoorLxZB
import Derived.Test.YtgfggbndbceppaaGreatDoorCards
import Derived.Test.YtgfggbndbceppaaGreatDoorTie
import Derived.Test.YtgfggbndbceppaaGreatDoorTyTellsLxA
set_option linter.unusedSimpArgs false
set_option linter.unusedVariables false
set_option linter.unusedSectionVars false
set_option linter.unnecessarySimpa false
set_option maxRecDepth 100000
namespace Go.LX
open Go Go.Proofs Go.RowKit Go.ChangeShapes Go.WideShapes Go.ChangeAt Go.Lib
open Go.Proofs.YtgfggbndbceppaaGreatDoor
theorem J2p (os:Os) {H:Type} (enc:TypeId×Value→H):∃ places,DataW.whole enc Tryz.prog ((D9 os).forCall (fun _ _=>0) ⟨#[],#[.slice none 0 0,.slice none 0 0],[]⟩).memory Tryz.f8.params.toList Rows.tyTellsSpec.vars false #[Value.slice none 0 0,.slice none 0 0].toList 8=some ([.nil,.nil],[],places) :=
 ⟨[],by kernel_rfl⟩
theorem J0y (os:Os) (started:os.Started) (H:Type) (enc:TypeId×Value→H) (F:Stop.Interp) :
  ReturnsInHanded {} Tryz.checked os 8 .any ((OpenSpec.ofChange Rows.tyTellsSpec).preRow enc Tryz.prog Tryz.f8 Rows.tyTellsRow.domain false Rows.tyTellsRow.laid) (((OpenSpec.ofChange Rows.tyTellsSpec).at F).post enc Tryz.prog Tryz.f8 false true false false):=by
 obtain ⟨places,hx⟩:=J2p os enc;refine returnsInHanded_of_row (C:=Tryz.checked) (s:=OpenSpec.ofChange Rows.tyTellsSpec) gOwn started krf Tryz.func8
  (witness_row_atRef (enc:=enc) (C:=Tryz.checked) false (D9 os) #[.slice none 0 0,.slice none 0 0] rfl krf krf krf
   (OpenSpec.preRow_of_cond 8 hx krf (fun k hk=>by cases hk) krf (Ma os _))) ?_
 intro W base args ds gs before hval0 hW _ _ hz hL _ _;have hval:∀ (j:Nat) t v,Tryz.f8.params[j]? = some t→args[j]? = some v→Value.okWide Tryz.prog W .any base t v:=hval0;have hW':=hW;obtain ⟨p,q,hA0,hV0,rfl,_,_⟩:=hW
 try clear hL0
 have hA:DataW.TrodAll enc Tryz.prog W 0 (fun _=>true) true Tryz.f8.params.toList args.toList ds p:=hA0;rw [Tryz.params8] at hA hval;obtain ⟨v0,vs0,d0,ds0,p0,q0,e0,rfl,rfl,h0,r0⟩:=trodAll_cons hA;obtain ⟨v1,vs1,d1,ds1,p1,q1,e1,rfl,rfl,h1,r1⟩:=trodAll_cons r0;obtain ⟨rfl,rfl,rfl⟩:=trodAll_nil r1;have hargs:args = #[v0,v1]:=by
  have:args.toList=[v0,v1]:=by rw [e0,e1]
  rw [← Array.toList_inj];exact this
 subst hargs;obtain ⟨a0,f0,k0⟩:=J5y (hval 0 _ v0 rfl rfl) h0 hz (j:=0) rfl rfl;obtain ⟨a1,f1,k1⟩:=J9z (hval 1 _ v1 rfl rfl) h1 hz (j:=1) rfl rfl;have hcall:=(Kbt a0 a1 f0 f1).calls_below (w:=W) (Im:=Ja W) (tyG hL) (fun _ h=>h) (vs:=[v0,v1]) rfl (fun i v a hv ha=>by
   match i,hv,ha with
   | 0,hv,ha=>cases hv;cases ha;exact k0
   | 1,hv,ha=>cases hv;cases ha;exact k1
   | i+2,hv,ha=>simp at hv) (fun β w' Im' u hu=>Na hu)
 exact hcall.mono fun e W' ⟨he,hb⟩=>⟨_,he,M7 L2 (s:=Rows.tyTellsSpec) rfl (by
  rw [Tryz.params8];intro t ht;simp only [List.mem_cons,List.not_mem_nil,or_false] at ht;rcases ht with rfl | rfl
  all_goals exact ⟨by kernel_rfl,of_decide_eq_true krf⟩) krf Tryz.underlying4 hW' rfl hb⟩
theorem J7c:Tryz.prog.inPlace 8=Rows.tyTellsRow.inPlace:=krf
theorem J12:Tryz.prog.unfollowed 8=true:=krf
theorem J79:Tryz.prog.recurses 8=true:=by unfold Program.recurses;rw [J12];rfl
theorem J7b:Tryz.prog.varsNamed 8=Rows.tyTellsRow.named:=krf
theorem J09:joinedFacts Tryz.prog 8 Tryz.f8 (OpenSpec.ofChange Rows.tyTellsSpec).bare Rows.tyTellsRow=true:=by
 unfold joinedFacts;rw [J7c,J12,J79,J7b]
 kernel_rfl
theorem tyTells_said:Rows.TyTellsSaid :=
 OpenClaim.holds_of_cond 8 Tryz.f8 rfl rfl rfl rfl rfl rfl rfl ⟨rfl,rfl,rfl,rfl,rfl⟩ rfl rfl rfl rfl rfl krf Tryz.func8 J09
  (of_decide_eq_true krf) (by unfold Func.isWrapper;first | (rw [if_pos (by decide +kernel)];kernel_rfl)|(rw [if_neg (by decide +kernel)];exact ⟨rfl,rfl⟩))
  (fun os started H enc _ F=>by rw [OpenClaim.pre_eq_preRow];exact J0y os started H enc F)
theorem tyTells_plain (f:FuncId) (fn:Func) (hf:Tryz.pinned.checked.prog.funcNamed "loupe/loupelaw12.TyTells" = some f) (hfn:Tryz.pinned.checked.prog.funcs[f]? = some fn) :
  true=Tryz.pinned.checked.prog.looks []∧∀ (j:Nat) t,fn.params[j]? = some t→Tryz.pinned.checked.prog.wantsStandIn t=false:=by
 obtain rfl:f=8:=Option.some.inj ((show Tryz.prog.funcNamed "loupe/loupelaw12.TyTells" = some 8 by kernel_rfl).symm.trans hf) |>.symm;obtain rfl:fn=Tryz.f8:=(Option.some.inj (Tryz.func8.symm.trans hfn)).symm;refine ⟨by kernel_rfl,fun j t ht=>?_⟩;rw [Tryz.params8] at ht;have hm:=Array.mem_of_getElem? ht;simp only [List.mem_toArray,List.mem_cons,List.not_mem_nil,or_false] at hm;rcases hm with rfl | rfl
 all_goals exact (show Tryz.prog.wantsStandIn _=false by kernel_rfl)
end Go.LX
namespace Go.Proofs.YtgfggbndbceppaaGreatDoor
theorem tyTells_holds:Rows.TyTellsCardSaid :=
 Claim7.holds_tied_plain_at .later [] _ _ _ _ Go.LX.tyTells_said (fun _ h=>by cases h) (by kernel_rfl) (fun _ h=>by cases h) tyTells_row_tie rfl ⟨rfl,rfl⟩ (by kernel_rfl) rfl Go.LX.tyTells_plain (Go.LX.goesBy_none Go.LX.noGoes _)
end Go.Proofs.YtgfggbndbceppaaGreatDoor
