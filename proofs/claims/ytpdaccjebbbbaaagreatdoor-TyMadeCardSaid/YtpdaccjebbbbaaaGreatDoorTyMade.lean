/- The law TyMade holds of the given program, for every input: no condition of its own. What the row lists of package-level variables is tied to the program's text by the given tie. -/
import Derived.Test.YtpdaccjebbbbaaaGreatDoorLxZB
import Derived.Test.YtpdaccjebbbbaaaGreatDoorCards
import Derived.Test.YtpdaccjebbbbaaaGreatDoorTie
set_option linter.unusedSimpArgs false
set_option linter.unusedVariables false
set_option linter.unusedSectionVars false
set_option linter.unnecessarySimpa false
set_option maxRecDepth 100000
namespace Go.LX
open Go Go.Proofs Go.RowKit Go.ChangeShapes Go.WideShapes Go.ChangeAt Go.Lib
open Go.Proofs.YtpdaccjebbbbaaaGreatDoor
theorem J1k (os:Os) {H:Type} (enc:TypeId×Value→H):∃ places,DataW.whole enc Tryz.prog ((D9 os).forCall (fun _ _=>0) ⟨#[],#[.agg #[.int .i64 0,.int .i64 0,.string ⟨#[]⟩,.string ⟨#[]⟩,.int .i64 0,.int .i64 0,.int .i64 0,.string ⟨#[]⟩,.string ⟨#[]⟩,.bool false,.int .i64 0],.slice none 0 0,.slice none 0 0],[]⟩).memory Tryz.f3.params.toList Rows.tyMadeSpec.vars false #[Value.agg #[.int .i64 0,.int .i64 0,.string ⟨#[]⟩,.string ⟨#[]⟩,.int .i64 0,.int .i64 0,.int .i64 0,.string ⟨#[]⟩,.string ⟨#[]⟩,.bool false,.int .i64 0],.slice none 0 0,.slice none 0 0].toList 8=some ([.agg [.lit (.int .i64 0),.lit (.int .i64 0),.lit (.string []),.lit (.string []),.lit (.int .i64 0),.agg [.lit (.int .i64 0),.lit (.int .i64 0),.lit (.string []),.lit (.string []),.lit (.bool false),.lit (.int .i64 0)]],.nil,.nil],[],places) :=
 ⟨[],by kernel_rfl⟩
theorem Jzm (os:Os) (started:os.Started) (H:Type) (enc:TypeId×Value→H) (F:Stop.Interp) :
  ReturnsInHanded {} Tryz.checked os 3 .any ((OpenSpec.ofChange Rows.tyMadeSpec).preRow enc Tryz.prog Tryz.f3 Rows.tyMadeRow.domain false Rows.tyMadeRow.laid) (((OpenSpec.ofChange Rows.tyMadeSpec).at F).post enc Tryz.prog Tryz.f3 false true false false):=by
 obtain ⟨places,hx⟩:=J1k os enc;refine returnsInHanded_of_row (C:=Tryz.checked) (s:=OpenSpec.ofChange Rows.tyMadeSpec) gOwn started krf Tryz.func3
  (witness_row_atRef (enc:=enc) (C:=Tryz.checked) false (D9 os) #[.agg #[.int .i64 0,.int .i64 0,.string ⟨#[]⟩,.string ⟨#[]⟩,.int .i64 0,.int .i64 0,.int .i64 0,.string ⟨#[]⟩,.string ⟨#[]⟩,.bool false,.int .i64 0],.slice none 0 0,.slice none 0 0] rfl krf krf krf
   (OpenSpec.preRow_of_cond 8 hx krf (fun k hk=>by cases hk) krf (Ma os _))) ?_
 intro W base args ds gs before hval0 hW _ _ hz hL _ _;have hval:∀ (j:Nat) t v,Tryz.f3.params[j]? = some t→args[j]? = some v→Value.okWide Tryz.prog W .any base t v:=hval0;have hW':=hW;obtain ⟨p,q,hA0,hV0,rfl,_,_⟩:=hW
 try clear hL0
 have hA:DataW.TrodAll enc Tryz.prog W 0 (fun _=>true) true Tryz.f3.params.toList args.toList ds p:=hA0;rw [Tryz.params3] at hA hval;obtain ⟨v0,vs0,d0,ds0,p0,q0,e0,rfl,rfl,h0,r0⟩:=trodAll_cons hA;obtain ⟨v1,vs1,d1,ds1,p1,q1,e1,rfl,rfl,h1,r1⟩:=trodAll_cons r0;obtain ⟨v2,vs2,d2,ds2,p2,q2,e2,rfl,rfl,h2,r2⟩:=trodAll_cons r1;obtain ⟨rfl,rfl,rfl⟩:=trodAll_nil r2;have hargs:args = #[v0,v1,v2]:=by
  have:args.toList=[v0,v1,v2]:=by rw [e0,e1,e2]
  rw [← Array.toList_inj];exact this
 subst hargs;obtain ⟨n0,rfl,b0⟩:=argTyS (hval 0 _ v0 rfl rfl);obtain ⟨a1,f1,k1⟩:=J9q (hval 1 _ v1 rfl rfl) h1 hz (j:=1) rfl rfl;obtain ⟨a2,f2,k2⟩:=argTypes (hval 2 _ v2 rfl rfl) h2 hz (j:=2) rfl rfl;have hcall:=(J8x n0 a1 a2 f1 f2).calls_below (w:=W) (Im:=Ja W) (tyG hL) (fun _ h=>h) (vs:=[.agg ⟨n0.vals⟩,v1,v2]) rfl (fun i v a hv ha=>by
   match i,hv,ha with
   | 0,hv,ha=>cases hv;cases ha;exact J4e _
   | 1,hv,ha=>cases hv;cases ha;exact k1
   | 2,hv,ha=>cases hv;cases ha;exact k2
   | i+3,hv,ha=>simp at hv) (fun β w' Im' u hu=>Na hu)
 exact hcall.mono fun e W' ⟨he,hb⟩=>⟨_,he,M7 L2 (s:=Rows.tyMadeSpec) rfl (by
  rw [Tryz.params3];intro t ht;simp only [List.mem_cons,List.not_mem_nil,or_false] at ht;rcases ht with rfl | rfl | rfl
  all_goals exact ⟨by kernel_rfl,of_decide_eq_true krf⟩) krf Tryz.underlying4 hW' rfl hb⟩
theorem J7g:Tryz.prog.inPlace 3=Rows.tyMadeRow.inPlace:=krf
theorem Jz9:Tryz.prog.unfollowed 3=true:=krf
theorem J7r:Tryz.prog.recurses 3=true:=by unfold Program.recurses;rw [Jz9];rfl
theorem J6y:Tryz.prog.varsNamed 3=Rows.tyMadeRow.named:=krf
theorem Jzq:joinedFacts Tryz.prog 3 Tryz.f3 (OpenSpec.ofChange Rows.tyMadeSpec).bare Rows.tyMadeRow=true:=by
 unfold joinedFacts;rw [J7g,Jz9,J7r,J6y]
 kernel_rfl
theorem tyMade_said:Rows.TyMadeSaid :=
 OpenClaim.holds_of_cond 3 Tryz.f3 rfl rfl rfl rfl rfl rfl rfl ⟨rfl,rfl,rfl,rfl,rfl⟩ rfl rfl rfl rfl rfl krf Tryz.func3 Jzq
  (of_decide_eq_true krf) (by unfold Func.isWrapper;first | (rw [if_pos (by decide +kernel)];kernel_rfl)|(rw [if_neg (by decide +kernel)];exact ⟨rfl,rfl⟩))
  (fun os started H enc _ F=>by rw [OpenClaim.pre_eq_preRow];exact Jzm os started H enc F)
theorem tyMade_plain (f:FuncId) (fn:Func) (hf:Tryz.pinned.checked.prog.funcNamed "loupe/loupelaw12.TyMade" = some f) (hfn:Tryz.pinned.checked.prog.funcs[f]? = some fn) :
  true=Tryz.pinned.checked.prog.looks []∧∀ (j:Nat) t,fn.params[j]? = some t→Tryz.pinned.checked.prog.wantsStandIn t=false:=by
 obtain rfl:f=3:=Option.some.inj ((show Tryz.prog.funcNamed "loupe/loupelaw12.TyMade" = some 3 by kernel_rfl).symm.trans hf) |>.symm;obtain rfl:fn=Tryz.f3:=(Option.some.inj (Tryz.func3.symm.trans hfn)).symm;refine ⟨by kernel_rfl,fun j t ht=>?_⟩;rw [Tryz.params3] at ht;have hm:=Array.mem_of_getElem? ht;simp only [List.mem_toArray,List.mem_cons,List.not_mem_nil,or_false] at hm;rcases hm with rfl | rfl | rfl
 all_goals exact (show Tryz.prog.wantsStandIn _=false by kernel_rfl)
end Go.LX
namespace Go.Proofs.YtpdaccjebbbbaaaGreatDoor
theorem tyMade_holds:Rows.TyMadeCardSaid :=
 Claim7.holds_tied_plain_at .later [] _ _ _ _ Go.LX.tyMade_said (fun _ h=>by cases h) (by kernel_rfl) (fun _ h=>by cases h) tyMade_row_tie rfl ⟨rfl,rfl⟩ (by kernel_rfl) rfl Go.LX.tyMade_plain (Go.LX.goesBy_none Go.LX.noGoes _)
end Go.Proofs.YtpdaccjebbbbaaaGreatDoor
