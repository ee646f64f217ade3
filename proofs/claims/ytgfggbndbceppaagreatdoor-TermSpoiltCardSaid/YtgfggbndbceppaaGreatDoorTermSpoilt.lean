/- The law TermSpoilt holds of the given program, for every input: no condition of its own. What the row lists of package-level variables is tied to the program's text by the given tie. -/
import Derived.Test.YtgfggbndbceppaaGreatDoorLxY
import Derived.Test.YtgfggbndbceppaaGreatDoorTermSpoiltLxA
import Derived.Test.YtgfggbndbceppaaGreatDoorCards
import Derived.Test.YtgfggbndbceppaaGreatDoorTie
set_option linter.unusedSimpArgs false
set_option linter.unusedVariables false
set_option linter.unusedSectionVars false
set_option linter.unnecessarySimpa false
set_option maxRecDepth 100000
namespace Go.LX
open Go Go.Proofs Go.RowKit Go.ChangeShapes Go.WideShapes Go.ChangeAt Go.Lib
open Go.Proofs.YtgfggbndbceppaaGreatDoor
theorem Jwd (os:Os) {H:Type} (enc:TypeId×Value→H):∃ places,DataW.whole enc Tryz.prog ((D9 os).forCall (fun _ _=>0) ⟨#[],#[.slice none 0 0,.agg #[.int .i64 0,.int .i64 0,.string ⟨#[]⟩,.string ⟨#[]⟩,.int .i64 0,.int .i64 0,.int .i64 0,.string ⟨#[]⟩,.string ⟨#[]⟩,.bool false,.int .i64 0],.int .i64 0],[]⟩).memory Tryz.f7.params.toList Rows.termSpoiltSpec.vars false #[Value.slice none 0 0,.agg #[.int .i64 0,.int .i64 0,.string ⟨#[]⟩,.string ⟨#[]⟩,.int .i64 0,.int .i64 0,.int .i64 0,.string ⟨#[]⟩,.string ⟨#[]⟩,.bool false,.int .i64 0],.int .i64 0].toList 8=some ([.nil,.agg [.lit (.int .i64 0),.lit (.int .i64 0),.lit (.string []),.lit (.string []),.lit (.int .i64 0),.agg [.lit (.int .i64 0),.lit (.int .i64 0),.lit (.string []),.lit (.string []),.lit (.bool false),.lit (.int .i64 0)]],.lit (.int .i64 0)],[],places) :=
 ⟨[],by kernel_rfl⟩
theorem Jvv (os:Os) (started:os.Started) (H:Type) (enc:TypeId×Value→H) (F:Stop.Interp) :
  ReturnsInHanded {} Tryz.checked os 7 .any ((OpenSpec.ofChange Rows.termSpoiltSpec).preRow enc Tryz.prog Tryz.f7 Rows.termSpoiltRow.domain false Rows.termSpoiltRow.laid) (((OpenSpec.ofChange Rows.termSpoiltSpec).at F).post enc Tryz.prog Tryz.f7 false true false false):=by
 obtain ⟨places,hx⟩:=Jwd os enc;refine returnsInHanded_of_row (C:=Tryz.checked) (s:=OpenSpec.ofChange Rows.termSpoiltSpec) gOwn started kr Tryz.func7
  (witness_row_atRef (enc:=enc) (C:=Tryz.checked) false (D9 os) #[.slice none 0 0,.agg #[.int .i64 0,.int .i64 0,.string ⟨#[]⟩,.string ⟨#[]⟩,.int .i64 0,.int .i64 0,.int .i64 0,.string ⟨#[]⟩,.string ⟨#[]⟩,.bool false,.int .i64 0],.int .i64 0] rfl kr kr kr
   (OpenSpec.preRow_of_cond 8 hx kr (fun k hk=>by cases hk) kr (Ma os _))) ?_
 intro W base args ds gs before hval0 hW _ _ hz hL _ _;have hval:∀ (j:Nat) t v,Tryz.f7.params[j]? = some t→args[j]? = some v→Value.okWide Tryz.prog W .any base t v:=hval0;have hW':=hW;obtain ⟨p,q,hA0,hV0,rfl,_,_⟩:=hW
 try clear hL0
 have hA:DataW.TrodAll enc Tryz.prog W 0 (fun _=>true) true Tryz.f7.params.toList args.toList ds p:=hA0;rw [Tryz.params7] at hA hval;obtain ⟨v0,vs0,d0,ds0,p0,q0,e0,rfl,rfl,h0,r0⟩:=trodAll_cons hA;obtain ⟨v1,vs1,d1,ds1,p1,q1,e1,rfl,rfl,h1,r1⟩:=trodAll_cons r0;obtain ⟨v2,vs2,d2,ds2,p2,q2,e2,rfl,rfl,h2,r2⟩:=trodAll_cons r1;obtain ⟨rfl,rfl,rfl⟩:=trodAll_nil r2;have hargs:args = #[v0,v1,v2]:=by
  have:args.toList=[v0,v1,v2]:=by rw [e0,e1,e2]
  rw [← Array.toList_inj];exact this
 subst hargs;obtain ⟨a0,f0,k0⟩:=Jvz (hval 0 _ v0 rfl rfl) h0 hz (j:=0) rfl rfl;obtain ⟨n1,rfl,b1⟩:=argTm (hval 1 _ v1 rfl rfl);obtain ⟨i2,rfl,b2⟩:=argInt (hval 2 _ v2 rfl rfl);have hcall:=(Jz0 a0 n1 i2 f0 b1).calls_below (w:=W) (Im:=Ja W) (J12 hL) (fun _ h=>h) (vs:=[v0,.agg ⟨n1.vals⟩,.int .i64 i2]) rfl (fun i v a hv ha=>by
   match i,hv,ha with
   | 0,hv,ha=>cases hv;cases ha;exact k0
   | 1,hv,ha=>cases hv;cases ha;exact J34 _
   | 2,hv,ha=>cases hv;cases ha;exact PRep.int _ _
   | i+3,hv,ha=>simp at hv) (fun β w' Im' u hu=>Na hu)
 exact hcall.mono fun e W' ⟨he,hb⟩=>⟨_,he,M7 L2 (s:=Rows.termSpoiltSpec) rfl (by
  rw [Tryz.params7];intro t ht;simp only [List.mem_cons,List.not_mem_nil,or_false] at ht;rcases ht with rfl | rfl | rfl
  all_goals exact ⟨by kernel_rfl,of_decide_eq_true kr⟩) kr Tryz.underlying4 hW' rfl hb⟩
theorem Jys:Tryz.prog.inPlace 7=Rows.termSpoiltRow.inPlace:=kr
theorem Ju2:Tryz.prog.unfollowed 7=true:=kr
theorem Jyy:Tryz.prog.recurses 7=true:=by unfold Program.recurses;rw [Ju2];rfl
theorem Jyr:Tryz.prog.varsNamed 7=Rows.termSpoiltRow.named:=kr
theorem Jvl:joinedFacts Tryz.prog 7 Tryz.f7 (OpenSpec.ofChange Rows.termSpoiltSpec).bare Rows.termSpoiltRow=true:=by
 unfold joinedFacts;rw [Jys,Ju2,Jyy,Jyr]
 kernel_rfl
theorem termSpoilt_said:Rows.TermSpoiltSaid :=
 OpenClaim.holds_of_cond 7 Tryz.f7 rfl rfl rfl rfl rfl rfl rfl ⟨rfl,rfl,rfl,rfl,rfl⟩ rfl rfl rfl rfl rfl kr Tryz.func7 Jvl
  (of_decide_eq_true kr) (by unfold Func.isWrapper;first | (rw [if_pos (by decide +kernel)];kernel_rfl)|(rw [if_neg (by decide +kernel)];exact ⟨rfl,rfl⟩))
  (fun os started H enc _ F=>by rw [OpenClaim.pre_eq_preRow];exact Jvv os started H enc F)
theorem termSpoilt_plain (f:FuncId) (fn:Func) (hf:Tryz.pinned.checked.prog.funcNamed "loupe/loupelaw07.TermSpoilt" = some f) (hfn:Tryz.pinned.checked.prog.funcs[f]? = some fn) :
  true=Tryz.pinned.checked.prog.looks []∧∀ (j:Nat) t,fn.params[j]? = some t→Tryz.pinned.checked.prog.wantsStandIn t=false:=by
 obtain rfl:f=7:=Option.some.inj ((show Tryz.prog.funcNamed "loupe/loupelaw07.TermSpoilt" = some 7 by kernel_rfl).symm.trans hf) |>.symm;obtain rfl:fn=Tryz.f7:=(Option.some.inj (Tryz.func7.symm.trans hfn)).symm;refine ⟨by kernel_rfl,fun j t ht=>?_⟩;rw [Tryz.params7] at ht;have hm:=Array.mem_of_getElem? ht;simp only [List.mem_toArray,List.mem_cons,List.not_mem_nil,or_false] at hm;rcases hm with rfl | rfl | rfl
 all_goals exact (show Tryz.prog.wantsStandIn _=false by kernel_rfl)
end Go.LX
namespace Go.Proofs.YtgfggbndbceppaaGreatDoor
theorem termSpoilt_holds:Rows.TermSpoiltCardSaid :=
 Claim7.holds_tied_plain_at .later [] _ _ _ _ Go.LX.termSpoilt_said (fun _ h=>by cases h) (by kernel_rfl) (fun _ h=>by cases h) termSpoilt_row_tie rfl ⟨rfl,rfl⟩ (by kernel_rfl) rfl Go.LX.termSpoilt_plain (Go.LX.goesBy_none Go.LX.noGoes _)
end Go.Proofs.YtgfggbndbceppaaGreatDoor
