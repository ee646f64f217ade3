/- Membership: keys; the second law. -/
import Derived.Test.YtpaiiekgdgjjnaaGreatDoorLxZA
set_option linter.unusedSimpArgs false
set_option linter.unusedVariables false
set_option linter.unusedSectionVars false
set_option linter.unnecessarySimpa false
set_option maxRecDepth 100000
set_option maxHeartbeats 2000000
namespace Go.LX
open Go Go.RowKit Go.Proofs
attribute [local irreducible] Al SWP Bi
theorem Kb7 (v:List YRow) (u:List Node) (hv:TyFit v) (hu:ValFit u):Det cx 4 [.p (.sl (rowL v)),.p (.sl (valL u))] [] (.p (.bool true)) []:=by
 have hG:=Kau v u hv hu
 cases b1:Jyv v 60 with
 | false =>
  rw [b1,Bool.false_and] at hG
  (refine Jqa false [] Tryz.func4 ?_;refine Ae hm _ _ _ ?_;simp only [Tryz.ntmps4,Tryz.results4,go_sem,simprocAttr])
  (repeat' (first | ((first | (refine Det.use (hG) ?_)|(refine Det.use (Jr3) ?_));simp only [go_sem,simprocAttr]) | fail))
 | true =>
  cases b2:fewB u 60 with
  | false =>
   rw [b1,b2] at hG
   (refine Jqa false [] Tryz.func4 ?_;refine Ae hm _ _ _ ?_;simp only [Tryz.ntmps4,Tryz.results4,go_sem,simprocAttr])
   (repeat' (first | ((first | (refine Det.use (hG) ?_)|(refine Det.use (Jr3) ?_));simp only [go_sem,simprocAttr]) | fail))
  | true =>
   rw [b1,b2] at hG
   obtain ⟨t,ht,ht9,rfl,htl,hts⟩:=J66 b1
   obtain ⟨x,hx,rfl,hxl,hxf⟩:=Fw hu b2
   obtain ⟨k,s,m,c,kids⟩:=t
   have hsl:s.length≤1000000:=hts ⟨k,kids.len,[],s,m,c⟩ (by rw [Jqk];simp)
   have hg0:(rowL ((RT.mk k s m c kids).enc []))[0]? = some [.int .i64 k,.int .i64 kids.len,.str [],.str s,.int .i64 m,.int .i64 c.kind,.int .i64 c.many,.str c.name,.str c.s,.bool c.neg,.int .i64 c.e]:=by rw [Jqk];rfl
   have hK:=Kco s x hsl (by omega)
   have hR:=Kbb s x hsl (by omega)
   have hkl:(keyV s x).length≤1000000:=by
    unfold keyV
    cases hg:getT (Je s).1 x with
    | ok w=>have:=Qm hg;simp only;omega
    | error e=>simp
   have hS:=E2 (keyV s x) (keyV s x) hkl hkl
   rw [decide_eq_true rfl] at hS
   generalize rowL ((RT.mk k s m c kids).enc [])=rows at *
   by_cases k7:k=7
   ·subst k7
    (refine Jqa false [] Tryz.func4 ?_;refine Ae hm _ _ _ ?_;simp only [Tryz.ntmps4,Tryz.results4,go_sem,simprocAttr,hg0])
    (repeat' (first | ((first | (refine Jqd hm ?_)|(refine Det.use (hG) ?_)|(refine Det.useQ (Jr3) ?_)|(refine Det.useQ (hK) ?_)|(refine Det.useQ (hR) ?_)|(refine Det.useQ (hS) ?_));simp only [go_sem,simprocAttr,hg0]) | fail))
   ·by_cases k8:k=8
    ·subst k8
     (refine Jqa false [] Tryz.func4 ?_;refine Ae hm _ _ _ ?_;simp only [Tryz.ntmps4,Tryz.results4,go_sem,simprocAttr,hg0])
     (repeat' (first | ((first | (refine Jqd hm ?_)|(refine Det.use (hG) ?_)|(refine Det.useQ (Jr3) ?_)|(refine Det.useQ (hK) ?_)|(refine Det.useQ (hR) ?_)|(refine Det.useQ (hS) ?_));simp only [go_sem,simprocAttr,hg0]) | fail))
    ·have c7:=eq_false k7
     have c8:=eq_false k8
     (refine Jqa false [] Tryz.func4 ?_;refine Ae hm _ _ _ ?_;simp only [Tryz.ntmps4,Tryz.results4,go_sem,simprocAttr,hg0,c7,c8])
     (repeat' (first | ((first | (refine Det.use (hG) ?_)|(refine Det.use (Jr3) ?_));simp only [go_sem,simprocAttr,hg0,c7,c8]) | fail))
end Go.LX
