/- The law EvalTells holds of the given program, for every input: no condition of its own. What the row lists of package-level variables is tied to the program's text by the given tie. -/
import Derived.Test.YtaghbedfogiopaaGreatDoorTxO
set_option linter.all false
set_option maxRecDepth 100000
namespace Go.LX
open Go Go.Proofs Go.Proofs.Tryz Go.RowKit Go.ChangeShapes Go.WideShapes Go.ChangeAt Go.Lib
open Go.Proofs.YtaghbedfogiopaaGreatDoor
variable (os:Os)
def J06{H:Type}(enc:TypeId×Value->H):∃KY,DataW.whole enc Tryz.prog ((D9 os).forCall (fun _ _=>0) ⟨#[],#[.slice none 0 0,.slice none 0 0],[]⟩).memory Tryz.f3.params.toList Rows.evalTellsSpec.vars false #[Value.slice none 0 0,.slice none 0 0].toList 8=some ([.nil,.nil],[],KY):=
 ⟨[],by kernel_rfl⟩
def Jzt(Tw:os.Started)(H:Type)(enc:TypeId×Value->H)(F:Stop.Interp) :
  ReturnsInHanded {} Tryz.checked os 3 .any ((OpenSpec.ofChange Rows.evalTellsSpec).preRow enc Tryz.prog Tryz.f3 Rows.evalTellsRow.domain false Rows.evalTellsRow.laid) (((OpenSpec.ofChange Rows.evalTellsSpec).at F).post enc Tryz.prog Tryz.f3 false true false false):=by
 obtain⟨KY,hx⟩:=J06 os enc;refine returnsInHanded_of_row (C:=Tryz.checked) (s:=OpenSpec.ofChange Rows.evalTellsSpec) ø Tw kr func3
  (witness_row_atRef (enc:=enc) (C:=Tryz.checked) false (D9 os) #[.slice none 0 0,.slice none 0 0] rfl kr kr kr
   (OpenSpec.preRow_of_cond 8 hx kr (fun k hk=>by cases hk) kr (Ma os _))) ?_
 intro W base args ds gs XE vg hW _ _ hz hL _ _;have XO:∀(j:Nat) t v,Tryz.f3.params[j]?=some t->args[j]?=some v->Value.okWide Tryz.prog W .any base t v:=vg;have xr:=hW;obtain⟨p,q,hA0,hV0,rfl,_,_⟩:=hW
 try clear hL0
 have hA:DataW.TrodAll enc Tryz.prog W 0 (fun _=>true) true Tryz.f3.params.toList args.toList ds p:=hA0;rw[params3]at hA XO;obtain⟨v0,vs0,d0,ds0,p0,q0,e0,rfl,rfl,h0,r0⟩:=trodAll_cons hA;obtain⟨v1,vs1,d1,ds1,p1,q1,e1,rfl,rfl,h1,r1⟩:=trodAll_cons r0;obtain⟨rfl,rfl,rfl⟩:=trodAll_nil r1;have MD:args = #[v0,v1]:=by
  have:args.toList=[v0,v1]:=by rw[e0,e1]
  rw[<-SP];exact this
 subst MD;obtain⟨a0,f0,k0⟩:=vb (XO 0 _ v0 rfl rfl) h0 hz (j:=0) rfl rfl;obtain⟨a1,f1,k1⟩:=N3 (XO 1 _ v1 rfl rfl) h1 hz (j:=1) rfl rfl;have vi:=(J8x a0 a1 f0 f1).calls_below (w:=W) (Im:=Ja W) (vc hL) (fun _ h=>h) (vs:=[v0,v1]) rfl (fun i v a hv ha=>by
   match i,hv,ha with
   |0,hv,ha=>cases hv;cases ha;exact k0
   |1,hv,ha=>cases hv;cases ha;exact k1
   |i+2,hv,ha=>simp at hv) (fun β w' CX u hu=>Na hu)
 exact vi.mono fun e W' ⟨he,hb⟩=>⟨_,he,M7 L2 (s:=Rows.evalTellsSpec) rfl (by
  rw[params3];intro t ht;simp only[DN,Ebj,or_false]at ht;rcases ht with rfl|rfl
  all_goals exact⟨by kernel_rfl,of_decide_eq_true kr⟩) kr underlying4 xr rfl hb⟩
def J54:Tryz.prog.inPlace 3=Rows.evalTellsRow.inPlace:=kr
def Jy4:Tryz.prog.unfollowed 3=true:=kr
def J53:Tryz.prog.recurses 3=true:=by unfold Program.recurses;rw[Jy4];rfl
def J5o:Tryz.prog.varsNamed 3=Rows.evalTellsRow.named:=kr
def Jzv:joinedFacts Tryz.prog 3 Tryz.f3 (OpenSpec.ofChange Rows.evalTellsSpec).bare Rows.evalTellsRow=true:=by
 unfold joinedFacts;rw[J54,Jy4,J53,J5o]
 kernel_rfl
def evalTells_said:Rows.EvalTellsSaid:=
 OpenClaim.holds_of_cond 3 Tryz.f3 rfl rfl rfl rfl rfl rfl rfl ⟨rfl,rfl,rfl,rfl,rfl⟩ rfl rfl rfl rfl rfl kr func3 Jzv
  (of_decide_eq_true kr) (by unfold Func.isWrapper;first|(rw[AB (by decide +kernel)];kernel_rfl)|(rw[AA (by decide +kernel)];exact⟨rfl,rfl⟩))
  (fun os Tw H enc _ F=>by rw[OpenClaim.pre_eq_preRow];exact Jzt os Tw H enc F)
def evalTells_plain (f:FuncId) (fn:Func) (hf:Tryz.pinned.checked.prog.funcNamed "loupe/loupelaw10.EvalTells" = some f) (Ui:Tryz.pinned.checked.prog.funcs[f]?=some fn) :
  true=Tryz.pinned.checked.prog.looks []/\∀(j:Nat) t,fn.params[j]?=some t->Tryz.pinned.checked.prog.wantsStandIn t=false:=by
 obtain rfl:f=3:=L' ((show Tryz.prog.funcNamed "loupe/loupelaw10.EvalTells" = some 3 by kernel_rfl).symm.trans hf)|>.symm;obtain rfl:fn=Tryz.f3:=(L' (func3.symm.trans Ui)).symm;refine⟨by kernel_rfl,fun j t ht=>?_⟩;rw[params3]at ht;have hm:=Array.mem_of_getElem? ht;simp only[List.mem_toArray,DN,Ebj,or_false]at hm;rcases hm with rfl|rfl
 all_goals exact(show Tryz.prog.wantsStandIn _=false by kernel_rfl)
end Go.LX
namespace Go.Proofs.YtaghbedfogiopaaGreatDoor
theorem evalTells_holds:Rows.EvalTellsCardSaid:=
 Claim7.holds_tied_plain_at .later [] _ _ _ _ Go.LX.evalTells_said (fun _ h=>by cases h) (by kernel_rfl) (fun _ h=>by cases h) evalTells_row_tie rfl ⟨rfl,rfl⟩ (by kernel_rfl) rfl Go.LX.evalTells_plain (Go.LX.goesBy_none Go.LX.noGoes _)
end Go.Proofs.YtaghbedfogiopaaGreatDoor
