/- The laws on paths: PathGets, PathSets. -/
import Derived.Test.YtmejkfclabmijaaGreatDoorLxY
import Derived.Test.YtmejkfclabmijaaGreatDoorLxK
import Derived.OpenShut
import Derived.WideKeyArgs
import Derived.Below
import Derived.ProofKit
import Derived.WalkKit
import Derived.ChangeSame
import Derived.Test.YtmejkfclabmijaaGreatDoorCards
import Derived.Test.YtmejkfclabmijaaGreatDoorTie
import Derived.Deep.DeepHandedRow
import Derived.Deep.DeepWitnessRowRef
import Derived.Deep.Slices
import Derived.Lib.LaidIn
import Derived.Lib.LaidU8T
import Derived.Lib.LaidTab
import Derived.SizedLaws
set_option linter.unusedSimpArgs false
set_option linter.unusedVariables false
set_option linter.unusedSectionVars false
set_option linter.unnecessarySimpa false
set_option maxRecDepth 100000
set_option maxHeartbeats 2000000
namespace Go.LX
open Go Go.RowKit Go.Proofs
attribute [local irreducible] Al SWP Bi
structure ValFit (v:List Node):Prop where
 len:v.length≤140737488355328
 node:∀ n∈v,EFit n
theorem Fw {v:List Node} (hv:ValFit v) {m:Nat} (h:fewB v m=true):∃ t,okT t∧v=t.enc []∧(t.enc []).length≤m∧FitT t:=by
 obtain ⟨h1,h2,t,h3,rfl⟩:=Jnl.1 h
 exact ⟨t,h3,rfl,h1,fun n hn=>⟨by have:=(h2 n hn).1;omega,by have:=(h2 n hn).2;omega,(hv.node n hn).e0,(hv.node n hn).e1⟩⟩
theorem Qm {p:List Step} {t u:Tree} (h:getT p t=.ok u):(u.enc []).length≤(t.enc []).length:=by
 induction p generalizing t with
 | nil=>cases h;exact Nat.le_refl _
 | cons x p ih =>
  rw [getT] at h
  cases hi:inT t x with
  | error e=>rw [hi] at h;cases h
  | ok w =>
   rw [hi] at h
   have:=ih h
   have:=Q7 hi
   omega
theorem Jec {p:List Step} {t:Tree} {e:Nat} (h:getT p t=.error e):e=5∨e=6:=Hu (p:=p) (t:=t) (u:=t) (Km.2 h)
theorem Ry {p:List Step} {t u w:Tree} (h:getT p t=.ok w):∃ y,setT p t u=.ok y:=by
 cases hs:setT p t u with
 | ok y=>exact ⟨y,rfl⟩
 | error e=>rw [Km.1 hs] at h;cases h
theorem Jz:Det cx 28 [.p .snil,.p .snil] [] (.p (.bool true)) []:=by
 (refine Al.of_code (X:=cx) false [] (by simp) Tryz.func28 (by kernel_rfl) rfl (by simp only [List.length_cons,List.length_nil,Tryz.ntmps28];decide) (by simp) ?_;refine Ae hm _ _ _ ?_;simp only [Tryz.ntmps28,Tryz.results28,go_sem,Nat.reduceLT,Nat.reduceLeDiff,Nat.reduceEqDiff,Nat.reduceAdd,Nat.reduceSub,Nat.reduceMul,Nat.reduceBEq,Int.reduceToNat,Int.reduceLT,Int.reduceLE,Int.reduceEq,Int.reduceAdd,Int.reduceSub,Int.reduceNeg,↓reduceIte,reduceCtorEq])
 (repeat' (first | (refine iteI (fun h=>?_) (fun h=>?_))|(refine Ak (by first | omega | (simp (disch:=omega) only [Aa,Ab,Ac] at *;omega)) ?_;intro b hb)|(refine And.intro (by first | omega | (simp (disch:=omega) only [Aa,Ab,Ac] at *;omega)) ?_)|((first | (refine Ah hm (by rfl) (by kernel_rfl) ?_));simp only [go_sem])|(exact True.intro)|(exfalso;omega)))
 refine SWP.loop (fun _:Nat=>⟨Ba 26 [(0,.p (.sl [])),(1,.p (.sl [])),(5,.p (.int .i64 0))],[]⟩) (fun _=>True) (fun _=>0) 0 (St.le_slots (by simp only [Ap,Ar,Ao,Aj,Af,Nat.reduceEqDiff,reduceIte,Nat.reduceLT,Nat.reduceLeDiff];simp (disch:=omega) [Af,Ai,Au,Aa] <;> (repeat' apply And.intro) <;> omega) (by simp (disch:=omega) [Az,A3,Aw,Am,Af,Ai,Au,Aa]) (by simp [Ay])) trivial ?_
 intro i _
 (refine Ae hm _ _ _ ?_;simp only [go_sem,Nat.reduceLT,Nat.reduceEqDiff,↓reduceIte,reduceCtorEq])
 (repeat' (first | (refine iteI (fun h=>?_) (fun h=>?_))|(refine Ak (by first | omega | (simp (disch:=omega) only [Aa,Ab,Ac] at *;omega)) ?_;intro b hb)|(refine And.intro (by first | omega | (simp (disch:=omega) only [Aa,Ab,Ac] at *;omega)) ?_)|((first | (refine Ah hm (by rfl) (by kernel_rfl) ?_));simp only [go_sem,Nat.reduceLT,Nat.reduceEqDiff,Int.reduceToNat,Int.reduceLE,↓reduceIte,reduceCtorEq])|(exact True.intro)|(exfalso;omega)))
theorem Joe {p:List Step} {t u:Tree} (ht:okT t) (h:getT p t=.ok u):okT u:=by
 induction p generalizing t with
 | nil=>cases h;exact ht
 | cons x p ih =>
  rw [getT] at h
  cases hi:inT t x with
  | error e=>rw [hi] at h;cases h
  | ok w=>rw [hi] at h;exact ih (Ig ht (Jv ht hi)) h
theorem Ja5 (p q:List Step) (v u:List Node) (hp:PathFit p) (hq:PathFit q) (hv:ValFit v) (hu:ValFit u):Det cx 4 [.p (.agg [.sl (Bb p),.sl (Bb q)]),.p (.sl (valL v)),.p (.sl (valL u))] [] (.p (.bool true)) []:=by
 have hFp:=Pe p hp.len hp.name
 by_cases fp:fewP p
 ·rw [decide_eq_true fp] at hFp
  have hFq:=Pe q hq.len hq.name
  by_cases fq:fewP q
  ·rw [decide_eq_true fq] at hFq
   have hOp:=D4 p (by have:=fp.1;omega) (fun x hx=>by have:=fp.2 x hx;omega)
   by_cases op:E9 p
   ·rw [decide_eq_true op] at hOp
    have hOq:=D4 q (by have:=fq.1;omega) (fun x hx=>by have:=fq.2 x hx;omega)
    by_cases oq:E9 q
    ·rw [decide_eq_true oq] at hOq
     have hFv:=Ln v 60 (by decide) (by have:=hv.len;omega) hv.node
     cases bv:fewB v 60 with
     | false =>
      rw [bv] at hFv
      (refine Al.of_code (X:=cx) false [] (by simp) Tryz.func4 (by kernel_rfl) rfl (by simp only [List.length_cons,List.length_nil,Tryz.ntmps4];decide) (by simp) ?_;refine Ae hm _ _ _ ?_;simp only [Tryz.ntmps4,Tryz.results4,go_sem,Nat.reduceLT,Nat.reduceLeDiff,Nat.reduceEqDiff,Nat.reduceAdd,Nat.reduceSub,Nat.reduceMul,Nat.reduceBEq,Int.reduceToNat,Int.reduceLT,Int.reduceLE,Int.reduceEq,Int.reduceAdd,Int.reduceSub,Int.reduceNeg,↓reduceIte,reduceCtorEq])
      (repeat' (first | (refine iteI (fun h=>?_) (fun h=>?_))|(refine Ak (by first | omega | (simp (disch:=omega) only [Aa,Ab,Ac] at *;omega)) ?_;intro b hb)|(refine And.intro (by first | omega | (simp (disch:=omega) only [Aa,Ab,Ac] at *;omega)) ?_)|((first | (refine Ah hm (by rfl) (by kernel_rfl) ?_)|(refine Det.use (hFp) ?_)|(refine Det.useQ (hFp) ?_)|(refine Ag.use (hFp) ?_)|(refine Ad.use (hFp) ?_)|(refine Det.use (hFq) ?_)|(refine Det.useQ (hFq) ?_)|(refine Ag.use (hFq) ?_)|(refine Ad.use (hFq) ?_)|(refine Det.use (hOp) ?_)|(refine Det.useQ (hOp) ?_)|(refine Ag.use (hOp) ?_)|(refine Ad.use (hOp) ?_)|(refine Det.use (hOq) ?_)|(refine Det.useQ (hOq) ?_)|(refine Ag.use (hOq) ?_)|(refine Ad.use (hOq) ?_)|(refine Det.use (hFv) ?_)|(refine Det.useQ (hFv) ?_)|(refine Ag.use (hFv) ?_)|(refine Ad.use (hFv) ?_)|(refine Det.use (Av) ?_)|(refine Det.useQ (Av) ?_));simp only [go_sem,Nat.reduceLT,Nat.reduceEqDiff,Nat.reduceMul,Int.reduceToNat,Int.reduceLE,↓reduceIte,reduceCtorEq])|(exact True.intro)|(exfalso;omega)))
     | true =>
      rw [bv] at hFv
      have hFu:=Ln u 60 (by decide) (by have:=hu.len;omega) hu.node
      cases bu:fewB u 60 with
      | false =>
       rw [bu] at hFu
       (refine Al.of_code (X:=cx) false [] (by simp) Tryz.func4 (by kernel_rfl) rfl (by simp only [List.length_cons,List.length_nil,Tryz.ntmps4];decide) (by simp) ?_;refine Ae hm _ _ _ ?_;simp only [Tryz.ntmps4,Tryz.results4,go_sem,Nat.reduceLT,Nat.reduceLeDiff,Nat.reduceEqDiff,Nat.reduceAdd,Nat.reduceSub,Nat.reduceMul,Nat.reduceBEq,Int.reduceToNat,Int.reduceLT,Int.reduceLE,Int.reduceEq,Int.reduceAdd,Int.reduceSub,Int.reduceNeg,↓reduceIte,reduceCtorEq])
       (repeat' (first | (refine iteI (fun h=>?_) (fun h=>?_))|(refine Ak (by first | omega | (simp (disch:=omega) only [Aa,Ab,Ac] at *;omega)) ?_;intro b hb)|(refine And.intro (by first | omega | (simp (disch:=omega) only [Aa,Ab,Ac] at *;omega)) ?_)|((first | (refine Ah hm (by rfl) (by kernel_rfl) ?_)|(refine Det.use (hFp) ?_)|(refine Det.useQ (hFp) ?_)|(refine Ag.use (hFp) ?_)|(refine Ad.use (hFp) ?_)|(refine Det.use (hFq) ?_)|(refine Det.useQ (hFq) ?_)|(refine Ag.use (hFq) ?_)|(refine Ad.use (hFq) ?_)|(refine Det.use (hOp) ?_)|(refine Det.useQ (hOp) ?_)|(refine Ag.use (hOp) ?_)|(refine Ad.use (hOp) ?_)|(refine Det.use (hOq) ?_)|(refine Det.useQ (hOq) ?_)|(refine Ag.use (hOq) ?_)|(refine Ad.use (hOq) ?_)|(refine Det.use (hFv) ?_)|(refine Det.useQ (hFv) ?_)|(refine Ag.use (hFv) ?_)|(refine Ad.use (hFv) ?_)|(refine Det.use (hFu) ?_)|(refine Det.useQ (hFu) ?_)|(refine Ag.use (hFu) ?_)|(refine Ad.use (hFu) ?_)|(refine Det.use (Av) ?_)|(refine Det.useQ (Av) ?_));simp only [go_sem,Nat.reduceLT,Nat.reduceEqDiff,Nat.reduceMul,Int.reduceToNat,Int.reduceLE,↓reduceIte,reduceCtorEq])|(exact True.intro)|(exfalso;omega)))
      | true =>
       rw [bu] at hFu
       obtain ⟨t,ht,rfl,htl,htf⟩:=Fw hv bv
       obtain ⟨y,hy,rfl,hyl,hyf⟩:=Fw hu bu
       have npl:p.length≤31:=fp.1
       have nql:q.length≤31:=fq.1
       have npn:∀ x∈p,x.name.length≤1000000:=fun x hx=>by have:=fp.2 x hx;omega
       have nqn:∀ x∈q,x.name.length≤1000000:=fun x hx=>by have:=fq.2 x hx;omega
       have gA:=I7 p q (by omega) (by omega) npn nqn
       rw [Fc] at gA
       have gB:=Jch p q (by omega) (by omega) npn nqn
       have g1:=M1 p t (by omega) op.2 (by omega)
       have g2:=Jjv p t (by omega) op.2 (by omega)
       have g3:=L8 p t y (by omega) op.2 ht hy (by omega)
       have g4:=Tk p t y (by omega) op.2 ht htf hy (by omega)
       cases hg:getT p t with
       | error e =>
        have hs:=(Km (p:=p) (t:=t) (u:=y)).2 hg
        rw [hg] at g1 g2
        rw [hs] at g3 g4
        unfold getR at g1 g2 g3 g4
        have s1:=Jz
        have s2:=Jz
        (refine Al.of_code (X:=cx) false [] (by simp) Tryz.func4 (by kernel_rfl) rfl (by simp only [List.length_cons,List.length_nil,Tryz.ntmps4];decide) (by simp) ?_;refine Ae hm _ _ _ ?_;simp only [Tryz.ntmps4,Tryz.results4,go_sem,Nat.reduceLT,Nat.reduceLeDiff,Nat.reduceEqDiff,Nat.reduceAdd,Nat.reduceSub,Nat.reduceMul,Nat.reduceBEq,Int.reduceToNat,Int.reduceLT,Int.reduceLE,Int.reduceEq,Int.reduceAdd,Int.reduceSub,Int.reduceNeg,↓reduceIte,reduceCtorEq])
        (repeat' (first | (refine iteI (fun h=>?_) (fun h=>?_))|(refine Ak (by first | omega | (simp (disch:=omega) only [Aa,Ab,Ac] at *;omega)) ?_;intro b hb)|(refine And.intro (by first | omega | (simp (disch:=omega) only [Aa,Ab,Ac] at *;omega)) ?_)|((first | (refine Ah hm (by rfl) (by kernel_rfl) ?_)|(refine Det.use (hFp) ?_)|(refine Det.useQ (hFp) ?_)|(refine Ag.use (hFp) ?_)|(refine Ad.use (hFp) ?_)|(refine Det.use (hFq) ?_)|(refine Det.useQ (hFq) ?_)|(refine Ag.use (hFq) ?_)|(refine Ad.use (hFq) ?_)|(refine Det.use (hOp) ?_)|(refine Det.useQ (hOp) ?_)|(refine Ag.use (hOp) ?_)|(refine Ad.use (hOp) ?_)|(refine Det.use (hOq) ?_)|(refine Det.useQ (hOq) ?_)|(refine Ag.use (hOq) ?_)|(refine Ad.use (hOq) ?_)|(refine Det.use (hFv) ?_)|(refine Det.useQ (hFv) ?_)|(refine Ag.use (hFv) ?_)|(refine Ad.use (hFv) ?_)|(refine Det.use (hFu) ?_)|(refine Det.useQ (hFu) ?_)|(refine Ag.use (hFu) ?_)|(refine Ad.use (hFu) ?_)|(refine Det.use (Av) ?_)|(refine Det.useQ (Av) ?_)|(refine Det.use (g1) ?_)|(refine Det.useQ (g1) ?_)|(refine Ag.use (g1) ?_)|(refine Ad.use (g1) ?_)|(refine Det.use (g2) ?_)|(refine Det.useQ (g2) ?_)|(refine Ag.use (g2) ?_)|(refine Ad.use (g2) ?_)|(refine Det.use (g3) ?_)|(refine Det.useQ (g3) ?_)|(refine Ag.use (g3) ?_)|(refine Ad.use (g3) ?_)|(refine Det.use (g4) ?_)|(refine Det.useQ (g4) ?_)|(refine Ag.use (g4) ?_)|(refine Ad.use (g4) ?_)|(refine Det.use (s1) ?_)|(refine Det.useQ (s1) ?_)|(refine Ag.use (s1) ?_)|(refine Ad.use (s1) ?_)|(refine Det.use (gA) ?_)|(refine Det.useQ (gA) ?_)|(refine Ag.use (gA) ?_)|(refine Ad.use (gA) ?_)|(refine Det.use (gB) ?_)|(refine Det.useQ (gB) ?_)|(refine Ag.use (gB) ?_)|(refine Ad.use (gB) ?_));simp only [go_sem,Nat.reduceLT,Nat.reduceEqDiff,Nat.reduceMul,Int.reduceToNat,Int.reduceLE,↓reduceIte,reduceCtorEq])|(exact True.intro)|(exfalso;omega)))
       | ok w =>
        obtain ⟨z,hz⟩:=Ry (u:=y) hg
        obtain ⟨_,_,_,_,_,_,hsz⟩:=Kg ht hy hz
        have hwl:=Qm hg
        rw [hg] at g1 g2
        rw [hz] at g3 g4
        unfold getR at g1 g2 g3 g4
        have s1:=E2 (w.enc []) (w.enc []) (by omega) (by omega)
        have s2:=E2 (z.enc []) (z.enc []) (by omega) (by omega)
        rw [decide_eq_true rfl] at s1 s2
        (refine Al.of_code (X:=cx) false [] (by simp) Tryz.func4 (by kernel_rfl) rfl (by simp only [List.length_cons,List.length_nil,Tryz.ntmps4];decide) (by simp) ?_;refine Ae hm _ _ _ ?_;simp only [Tryz.ntmps4,Tryz.results4,go_sem,Nat.reduceLT,Nat.reduceLeDiff,Nat.reduceEqDiff,Nat.reduceAdd,Nat.reduceSub,Nat.reduceMul,Nat.reduceBEq,Int.reduceToNat,Int.reduceLT,Int.reduceLE,Int.reduceEq,Int.reduceAdd,Int.reduceSub,Int.reduceNeg,↓reduceIte,reduceCtorEq])
        (repeat' (first | (refine iteI (fun h=>?_) (fun h=>?_))|(refine Ak (by first | omega | (simp (disch:=omega) only [Aa,Ab,Ac] at *;omega)) ?_;intro b hb)|(refine And.intro (by first | omega | (simp (disch:=omega) only [Aa,Ab,Ac] at *;omega)) ?_)|((first | (refine Ah hm (by rfl) (by kernel_rfl) ?_)|(refine Det.use (hFp) ?_)|(refine Det.useQ (hFp) ?_)|(refine Ag.use (hFp) ?_)|(refine Ad.use (hFp) ?_)|(refine Det.use (hFq) ?_)|(refine Det.useQ (hFq) ?_)|(refine Ag.use (hFq) ?_)|(refine Ad.use (hFq) ?_)|(refine Det.use (hOp) ?_)|(refine Det.useQ (hOp) ?_)|(refine Ag.use (hOp) ?_)|(refine Ad.use (hOp) ?_)|(refine Det.use (hOq) ?_)|(refine Det.useQ (hOq) ?_)|(refine Ag.use (hOq) ?_)|(refine Ad.use (hOq) ?_)|(refine Det.use (hFv) ?_)|(refine Det.useQ (hFv) ?_)|(refine Ag.use (hFv) ?_)|(refine Ad.use (hFv) ?_)|(refine Det.use (hFu) ?_)|(refine Det.useQ (hFu) ?_)|(refine Ag.use (hFu) ?_)|(refine Ad.use (hFu) ?_)|(refine Det.use (Av) ?_)|(refine Det.useQ (Av) ?_)|(refine Det.use (g1) ?_)|(refine Det.useQ (g1) ?_)|(refine Ag.use (g1) ?_)|(refine Ad.use (g1) ?_)|(refine Det.use (g2) ?_)|(refine Det.useQ (g2) ?_)|(refine Ag.use (g2) ?_)|(refine Ad.use (g2) ?_)|(refine Det.use (g3) ?_)|(refine Det.useQ (g3) ?_)|(refine Ag.use (g3) ?_)|(refine Ad.use (g3) ?_)|(refine Det.use (g4) ?_)|(refine Det.useQ (g4) ?_)|(refine Ag.use (g4) ?_)|(refine Ad.use (g4) ?_)|(refine Det.use (s1) ?_)|(refine Det.useQ (s1) ?_)|(refine Ag.use (s1) ?_)|(refine Ad.use (s1) ?_)|(refine Det.use (s2) ?_)|(refine Det.useQ (s2) ?_)|(refine Ag.use (s2) ?_)|(refine Ad.use (s2) ?_)|(refine Det.use (gA) ?_)|(refine Det.useQ (gA) ?_)|(refine Ag.use (gA) ?_)|(refine Ad.use (gA) ?_)|(refine Det.use (gB) ?_)|(refine Det.useQ (gB) ?_)|(refine Ag.use (gB) ?_)|(refine Ad.use (gB) ?_));simp only [go_sem,Nat.reduceLT,Nat.reduceEqDiff,Nat.reduceMul,Int.reduceToNat,Int.reduceLE,↓reduceIte,reduceCtorEq])|(exact True.intro)|(exfalso;omega)))
    ·rw [decide_eq_false oq] at hOq
     (refine Al.of_code (X:=cx) false [] (by simp) Tryz.func4 (by kernel_rfl) rfl (by simp only [List.length_cons,List.length_nil,Tryz.ntmps4];decide) (by simp) ?_;refine Ae hm _ _ _ ?_;simp only [Tryz.ntmps4,Tryz.results4,go_sem,Nat.reduceLT,Nat.reduceLeDiff,Nat.reduceEqDiff,Nat.reduceAdd,Nat.reduceSub,Nat.reduceMul,Nat.reduceBEq,Int.reduceToNat,Int.reduceLT,Int.reduceLE,Int.reduceEq,Int.reduceAdd,Int.reduceSub,Int.reduceNeg,↓reduceIte,reduceCtorEq])
     (repeat' (first | (refine iteI (fun h=>?_) (fun h=>?_))|(refine Ak (by first | omega | (simp (disch:=omega) only [Aa,Ab,Ac] at *;omega)) ?_;intro b hb)|(refine And.intro (by first | omega | (simp (disch:=omega) only [Aa,Ab,Ac] at *;omega)) ?_)|((first | (refine Ah hm (by rfl) (by kernel_rfl) ?_)|(refine Det.use (hFp) ?_)|(refine Det.useQ (hFp) ?_)|(refine Ag.use (hFp) ?_)|(refine Ad.use (hFp) ?_)|(refine Det.use (hFq) ?_)|(refine Det.useQ (hFq) ?_)|(refine Ag.use (hFq) ?_)|(refine Ad.use (hFq) ?_)|(refine Det.use (hOp) ?_)|(refine Det.useQ (hOp) ?_)|(refine Ag.use (hOp) ?_)|(refine Ad.use (hOp) ?_)|(refine Det.use (hOq) ?_)|(refine Det.useQ (hOq) ?_)|(refine Ag.use (hOq) ?_)|(refine Ad.use (hOq) ?_)|(refine Det.use (Av) ?_)|(refine Det.useQ (Av) ?_));simp only [go_sem,Nat.reduceLT,Nat.reduceEqDiff,Nat.reduceMul,Int.reduceToNat,Int.reduceLE,↓reduceIte])|(exact True.intro)|(exfalso;omega)))
   ·rw [decide_eq_false op] at hOp
    (refine Al.of_code (X:=cx) false [] (by simp) Tryz.func4 (by kernel_rfl) rfl (by simp only [List.length_cons,List.length_nil,Tryz.ntmps4];decide) (by simp) ?_;refine Ae hm _ _ _ ?_;simp only [Tryz.ntmps4,Tryz.results4,go_sem,Nat.reduceLT,Nat.reduceLeDiff,Nat.reduceEqDiff,Nat.reduceAdd,Nat.reduceSub,Nat.reduceMul,Nat.reduceBEq,Int.reduceToNat,Int.reduceLT,Int.reduceLE,Int.reduceEq,Int.reduceAdd,Int.reduceSub,Int.reduceNeg,↓reduceIte,reduceCtorEq])
    (repeat' (first | (refine iteI (fun h=>?_) (fun h=>?_))|(refine Ak (by first | omega | (simp (disch:=omega) only [Aa,Ab,Ac] at *;omega)) ?_;intro b hb)|(refine And.intro (by first | omega | (simp (disch:=omega) only [Aa,Ab,Ac] at *;omega)) ?_)|((first | (refine Ah hm (by rfl) (by kernel_rfl) ?_)|(refine Det.use (hFp) ?_)|(refine Det.useQ (hFp) ?_)|(refine Ag.use (hFp) ?_)|(refine Ad.use (hFp) ?_)|(refine Det.use (hFq) ?_)|(refine Det.useQ (hFq) ?_)|(refine Ag.use (hFq) ?_)|(refine Ad.use (hFq) ?_)|(refine Det.use (hOp) ?_)|(refine Det.useQ (hOp) ?_)|(refine Ag.use (hOp) ?_)|(refine Ad.use (hOp) ?_)|(refine Det.use (Av) ?_)|(refine Det.useQ (Av) ?_));simp only [go_sem,Nat.reduceLT,Nat.reduceEqDiff,Nat.reduceMul,Int.reduceToNat,Int.reduceLE,↓reduceIte])|(exact True.intro)|(exfalso;omega)))
  ·rw [decide_eq_false fq] at hFq
   (refine Al.of_code (X:=cx) false [] (by simp) Tryz.func4 (by kernel_rfl) rfl (by simp only [List.length_cons,List.length_nil,Tryz.ntmps4];decide) (by simp) ?_;refine Ae hm _ _ _ ?_;simp only [Tryz.ntmps4,Tryz.results4,go_sem,Nat.reduceLT,Nat.reduceLeDiff,Nat.reduceEqDiff,Nat.reduceAdd,Nat.reduceSub,Nat.reduceMul,Nat.reduceBEq,Int.reduceToNat,Int.reduceLT,Int.reduceLE,Int.reduceEq,Int.reduceAdd,Int.reduceSub,Int.reduceNeg,↓reduceIte,reduceCtorEq])
   (repeat' (first | (refine iteI (fun h=>?_) (fun h=>?_))|(refine Ak (by first | omega | (simp (disch:=omega) only [Aa,Ab,Ac] at *;omega)) ?_;intro b hb)|(refine And.intro (by first | omega | (simp (disch:=omega) only [Aa,Ab,Ac] at *;omega)) ?_)|((first | (refine Ah hm (by rfl) (by kernel_rfl) ?_)|(refine Det.use (hFp) ?_)|(refine Det.useQ (hFp) ?_)|(refine Ag.use (hFp) ?_)|(refine Ad.use (hFp) ?_)|(refine Det.use (hFq) ?_)|(refine Det.useQ (hFq) ?_)|(refine Ag.use (hFq) ?_)|(refine Ad.use (hFq) ?_)|(refine Det.use (Av) ?_)|(refine Det.useQ (Av) ?_));simp only [go_sem,Nat.reduceLT,Nat.reduceEqDiff,Nat.reduceMul,Int.reduceToNat,Int.reduceLE,↓reduceIte])|(exact True.intro)|(exfalso;omega)))
 ·rw [decide_eq_false fp] at hFp
  (refine Al.of_code (X:=cx) false [] (by simp) Tryz.func4 (by kernel_rfl) rfl (by simp only [List.length_cons,List.length_nil,Tryz.ntmps4];decide) (by simp) ?_;refine Ae hm _ _ _ ?_;simp only [Tryz.ntmps4,Tryz.results4,go_sem,Nat.reduceLT,Nat.reduceLeDiff,Nat.reduceEqDiff,Nat.reduceAdd,Nat.reduceSub,Nat.reduceMul,Nat.reduceBEq,Int.reduceToNat,Int.reduceLT,Int.reduceLE,Int.reduceEq,Int.reduceAdd,Int.reduceSub,Int.reduceNeg,↓reduceIte,reduceCtorEq])
  (repeat' (first | (refine iteI (fun h=>?_) (fun h=>?_))|(refine Ak (by first | omega | (simp (disch:=omega) only [Aa,Ab,Ac] at *;omega)) ?_;intro b hb)|(refine And.intro (by first | omega | (simp (disch:=omega) only [Aa,Ab,Ac] at *;omega)) ?_)|((first | (refine Ah hm (by rfl) (by kernel_rfl) ?_)|(refine Det.use (hFp) ?_)|(refine Det.useQ (hFp) ?_)|(refine Ag.use (hFp) ?_)|(refine Ad.use (hFp) ?_)|(refine Det.use (Av) ?_)|(refine Det.useQ (Av) ?_));simp only [go_sem,Nat.reduceLT,Nat.reduceEqDiff,Nat.reduceMul,Int.reduceToNat,Int.reduceLE,↓reduceIte])|(exact True.intro)|(exfalso;omega)))
end Go.LX
namespace Go.LX
open Go Go.Proofs Go.RowKit Go.ChangeShapes Go.WideShapes Go.ChangeAt
section
variable {H:Type} {enc:TypeId×Value→H} {P:Program}
theorem Kz (hl:laidOutB P=true) {W W':World} {sp:Nat→Bool}:∀ (ts:List TypeId) (vs:List Value) (ds:List (DataW H)) (ps:List MemPlace),(∀ t∈ts,P.readableRec t=true∧t<P.types.size) →
  DataW.TrodAll enc P W 0 (fun _=>true) true ts vs ds ps→(∀ p∈ps,W.sameAt W' p)→(∀ p∈ps,sp p.block=true)→DataW.TrodAll enc P W' 0 sp true ts vs ds ps
 | [],vs,ds,ps,_,h,_,_=>by
  obtain ⟨rfl,rfl,rfl⟩:=trodAll_nil h
  exact trodAll_mk0
 | t :: ts,vs,ds,ps,hr,h,hs,hb=>by
  obtain ⟨v,vs',d,ds',p,q,rfl,rfl,rfl,h0,h1⟩:=trodAll_cons h
  have ht:=hr t List.mem_cons_self
  exact trodAll_cons_mk (WideElems.Trod_stays hl ht.1 ht.2 h0 (fun x hx=>hs x (List.mem_append_left _ hx)) fun x hx=>hb x (List.mem_append_left _ hx))
   (Kz hl ts vs' ds' q (fun u hu=>hr u (List.mem_cons_of_mem _ hu)) h1 (fun x hx=>hs x (List.mem_append_right _ hx)) fun x hx=>hb x (List.mem_append_right _ hx))
theorem M7 (hl:laidOutB P=true) {f:Func} {s:ChangeSpec} {b:TypeId} {W W':World} {args:Array Value} {ds gs:List (DataW H)} {before:List MemPlace} (hv:s.vars=[])
  (hrd:∀ t∈f.params.toList,P.readableRec t=true∧t<P.types.size) (hrt:f.resultTypes = #[b]) (hb:P.underlying b=some .bool)
  (hW:DataW.Whole enc P f.params.toList s.vars false W args.toList ds gs before) (hfn:s.fn H ds = { results:=[.lit (.bool true)],args:=ds }) (hbel:Below W.heap.size W W') :
  s.post enc P f false true false false W args (.bool true) W':=by
 have hW':=hW
 have hlt:∀ p∈before,p.block<W.heap.size:=fun p hp=>hW'.lt p hp
 obtain ⟨p,q,hA,hV,rfl,hfz,hnd⟩:=hW
 rw [hv] at hV
 obtain ⟨rfl,rfl⟩:=trodVars_none hV
 simp only [List.append_nil] at hlt
 refine ⟨ds,[],p ++ [],[],p,[],hW',?_,?_,?_,hbel.frame _,fun h=>by cases h⟩
 ·rw [List.append_nil,hfn,hrt]
  exact trodAll_mk1 (shut_bool hb _)
 ·rw [List.append_nil,hfn]
  exact Kz hl _ _ _ _ hrd hA (fun x hx=>hbel.same (hlt x hx)) fun x hx=>by simpa using hlt x hx
 ·rw [List.append_nil,hfn,hv]
  rfl
end
end Go.LX
set_option maxRecDepth 100000
namespace Go.LX
open Go Go.Proofs Go.RowKit Go.ChangeShapes Go.WideShapes Go.ChangeAt Go.Lib
open Go.Proofs.YtmejkfclabmijaaGreatDoor
theorem Mc {P:Program} {w:World} {x:String×DataW Unit} {l:List (String×DataW Unit)} (h:laidMet P (x :: l) w):laidMet P l w:=by
 obtain ⟨ps,h1,h2,h3⟩:=h
 obtain ⟨n,d⟩:=x
 obtain ⟨g,t,cs,fuel,p,q,_,_,_,_,h5,rfl⟩:=h1
 exact ⟨q,h5,(List.nodup_append.1 h2).2.1,fun b off hb=>h3 b off (List.mem_append_right _ hb)⟩
theorem Jc3 (x:ByteArray):(⟨⟨x.data.toList⟩⟩:ByteArray)=x:=by rcases x with ⟨⟨l⟩⟩;rfl
theorem T8 (s:ByteArray):s.data.toList.length=s.size:=by simp
theorem Jci {P:Program} {w:World} {sp:Nat→Bool} {t:TypeId} {cs:List Value} {nm:String} {d:DataW Unit} {p:List MemPlace} {u:TypeDesc} (ht:P.underlying t=some u) (hu:∃ m,u=.interface m) :
  ∀ {fuel:Nat},DataW.trod (fun _=>()) P w 0 sp false fuel t cs=some (.iface nm d,p)→∃ te pe,cs=[.iface te pe]
 | 0,h=>by simp [DataW.trod] at h
 | fuel+1,h=>by
  obtain ⟨m,rfl⟩:=hu
  rcases cs with _ | ⟨c,_ | ⟨c2,cs⟩⟩
  ·simp [DataW.trod,ht] at h
  ·cases c <;> first | exact ⟨_,_,rfl⟩ | (simp [DataW.trod,ht] at h;done)
  ·simp [DataW.trod,ht] at h
theorem Xq {w:World} {n:String} {nm:String} {d:DataW Unit} {g:Nat} {t:TypeId} {u:TypeDesc} (h:VarReads Tryz.prog w n (.iface nm d)) (hg:Tryz.prog.globalNamed n=some g) (ht:(Tryz.prog.globals[g]?).map (·.type)=some t) (hu:Tryz.prog.underlying t=some u) (hi:∃ m,u=.interface m):Jk8 g w:=by
 obtain ⟨g',t',cs,fuel,p,h1,h2,h3,h4⟩:=h
 obtain rfl:=Option.some.inj (hg.symm.trans h1)
 obtain rfl:=Option.some.inj (ht.symm.trans h2)
 obtain ⟨te,pe,e⟩:=Jci hu hi h4
 refine ⟨te,pe,?_⟩
 rw [World.var?_cell hg h3 0,← Array.getElem?_toList,e]
 rfl
theorem gOwn:ownKnob Tryz.prog.godebug=none:=by kernel_rfl
theorem L2:laidOutB Tryz.prog=true:=by kernel_rfl
theorem gFirst:Go.Pinned.utf8First=firstData:=by kernel_rfl
theorem u8T:U8Types Tryz.prog Tryz.lays197_ren:=⟨by kernel_rfl,by kernel_rfl,by kernel_rfl,by kernel_rfl⟩
theorem u8X:U8Extra Tryz.prog Tryz.lays197_ren:=⟨by kernel_rfl,by kernel_rfl,by kernel_rfl,by kernel_rfl,by kernel_rfl,by kernel_rfl,by kernel_rfl⟩
def tz64:List Int:=Lib.deBruijn64tab.map fun n:Nat=>(n:Int)
def Ja (W:World) (b:Nat):Prop:=b<W.heap.size
theorem Kv {W:World} {n:String} {d:DataW Unit} {g:Nat} (h:VarReads Tryz.prog W n d) (hg:Tryz.prog.globalNamed n=some g):g<W.heap.size:=by
 obtain ⟨g',t',cs,fuel,p,h1,_,h3,_⟩:=h
 obtain rfl:=Option.some.inj (hg.symm.trans h1)
 unfold World.var? at h3
 rw [hg] at h3
 simp only [Option.bind_some] at h3
 rcases Nat.lt_or_ge g W.heap.size with h | h
 ·exact h
 ·rw [Array.getElem?_eq_none h] at h3;cases h3
theorem Jdp {W:World} (h:laidMetH Tryz.prog Rows.pathTextsRow.laid W):QuoteG W (Ja W):=by
 have h0:laidMet Tryz.prog Rows.pathTextsRow.laid W:=h
 have h1:=Mc h0
 have h2:=Mc h1
 have r1:VarReads Tryz.prog W "unicode/utf8.first" Rows.laid_unicode_utf8_first:=laidMet.reads h0 (by simp [Rows.pathTextsRow])
 have r2:VarReads Tryz.prog W "unicode/utf8.acceptRanges" Rows.laid_unicode_utf8_acceptRanges:=laidMet.reads h0 (by simp [Rows.pathTextsRow])
 have r3:VarReads Tryz.prog W "strconv.ErrSyntax" Rows.laid_strconv_ErrSyntax:=laidMet.reads h0 (by simp [Rows.pathTextsRow])
 have r4:VarReads Tryz.prog W "strconv.ErrRange" Rows.laid_strconv_ErrRange:=laidMet.reads h0 (by simp [Rows.pathTextsRow])
 have r5:VarReads Tryz.prog W "math/bits.deBruijn64tab" Rows.laid_math_bits_deBruijn64tab:=laidMet.reads h0 (by simp [Rows.pathTextsRow])
 have r6:VarReads Tryz.prog W "internal/strconv.uint64pow10" Rows.laid_internal_strconv_uint64pow10:=laidMet.reads h0 (by simp [Rows.pathTextsRow])
 refine ⟨?_,?_,?_,?_,?_,Kv r1 (by kernel_rfl),Kv r2 (by kernel_rfl),Kv r3 (by kernel_rfl),Kv r4 (by kernel_rfl),Kv r5 (by kernel_rfl),Kv r6 (by kernel_rfl)⟩
 ·have f1:VarReads Tryz.prog W "unicode/utf8.first" firstData:=by
   rw [← gFirst]
   exact laidMet.reads h0 (by simp [Rows.pathTextsRow,Rows.laid_unicode_utf8_first])
  have f2:VarReads Tryz.prog W "unicode/utf8.acceptRanges" acceptData:=laidMet.reads h0 (by
   rw [show (acceptData:DataW Unit)=Rows.laid_unicode_utf8_acceptRanges by kernel_rfl]
   simp [Rows.pathTextsRow])
  exact utf8Tabs_of_readsT u8T u8X f1 f2
 ·exact Xq r3 (by kernel_rfl) (by kernel_rfl) Tryz.underlying113 ⟨_,rfl⟩
 ·exact Xq r4 (by kernel_rfl) (by kernel_rfl) Tryz.underlying113 ⟨_,rfl⟩
 ·have ht:TabIs Tryz.prog W "math/bits.deBruijn64tab" .u8 tz64:=tabIs_of_head (g:=7) (t:=275) (e:=5) (n:=64) (by kernel_rfl) (by kernel_rfl) (by kernel_rfl) (by kernel_rfl) (by kernel_rfl) (by kernel_rfl) (k:=.u8) (zs:=tz64) h1
  intro j hj
  have:=ht.cell (g:=7) (by kernel_rfl) j (by simpa [tz64] using hj)
  rw [this]
  simp [tz64,List.getD_eq_getElem?_getD,hj]
 ·exact tabIs_of_head (g:=5) (t:=252) (e:=189) (n:=20) (by kernel_rfl) (by kernel_rfl) (by kernel_rfl) (by kernel_rfl) (by kernel_rfl) (by kernel_rfl) (k:=.u64) (zs:=Lib.pow10Tab) h2
def Yw (d:DataW Unit):List Value:=match d with
 | .agg l=>l.flatMap fun x=>match x with
  | .lit (.int k n)=>[Value.int k n]
  | .agg l'=>l'.flatMap fun y=>match y with
   | .lit (.int k n)=>[Value.int k n]
   | _=>[]
  | _=>[]
 | _=>[]
noncomputable def D9 (os:Os):World :=
 let N:=(World.settled Tryz.prog os).heap.size
 let w0:=World.holding Tryz.prog os ⟨#[
  .cells #[.string ⟨#[118,97,108,117,101,32,111,117,116,32,111,102,32,114,97,110,103,101]⟩] 258,.cells #[.string ⟨#[105,110,118,97,108,105,100,32,115,121,110,116,97,120]⟩] 258],#[],[]⟩
 let put (h:Array Obj) (g:Nat) (cs:Array Value):Array Obj:=h.modify g fun
  | .cells _ t frozen=>.cells cs t frozen
  | o=>o
 let h1:=put w0.heap 6 (Yw Rows.laid_math_bits_deBruijn32tab).toArray
 let h2:=put h1 7 (Yw Rows.laid_math_bits_deBruijn64tab).toArray
 let h3:=put h2 5 (Yw Rows.laid_internal_strconv_uint64pow10).toArray
 let h4:=put h3 1 (Yw Rows.laid_unicode_utf8_acceptRanges).toArray
 let h5:=put h4 4 #[.iface 256 (.pointer (some ⟨N,0,none⟩))]
 let h6:=put h5 3 #[.iface 256 (.pointer (some ⟨N+1,0,none⟩))]
 let h7:=put h6 0 (Yw Rows.laid_unicode_utf8_first).toArray
 { w0 with heap:=h7 }
theorem Ma (os:Os) (args:Array Value):laidMet Tryz.prog Rows.pathTextsRow.laid ((D9 os).forCall (fun _ _=>0) ⟨#[],args,[]⟩).memory :=
 laidMet_of_run' 8 (by kernel_rfl) (by kernel_rfl)
theorem trod_string {H:Type} {enc:TypeId×Value→H} {P:Program} {w:World} {base:Nat} {sp:Nat→Bool} {held:Bool} {t:TypeId} {s:List UInt8} {d:DataW H} {p:List MemPlace} (ht:P.underlying t=some .string) (h:DataW.Trod enc P w base sp held t (.string ⟨⟨s⟩⟩) d p):d=.lit (.string s):=by
 obtain ⟨fuel,h⟩:=h
 cases fuel with
 | zero=>simp [DataW.trod] at h
 | succ f =>
  simp only [DataW.trod,ht,Value.cells] at h
  split at h
  ·simp at h;exact h.1.symm
  ·cases h
theorem Jkw {α:Type} {Q:Nat→α→Prop}:∀ n,(∀ i,i<n→∃ x,Q i x)→∃ p:List α,p.length=n∧∀ i x,p[i]? = some x→Q i x
 | 0,_=>⟨[],rfl,fun i x h=>by simp at h⟩
 | n+1,h=>by
  obtain ⟨p,hp,hq⟩:=Jkw n fun i hi=>h i (by omega)
  obtain ⟨x,hx⟩:=h n (by omega)
  refine ⟨p ++ [x],by simp [hp],fun i y hy=>?_⟩
  rcases Nat.lt_trichotomy i n with hi | hi | hi
  ·rw [List.getElem?_append_left (by omega)] at hy;exact hq i y hy
  ·subst hi
   rw [List.getElem?_append_right (by omega),hp] at hy
   simp at hy;subst hy;exact hx
  ·rw [List.getElem?_eq_none (by simp [hp];omega)] at hy;cases hy
theorem J8 {H:Type} {P:Program} {e:TypeId} {d:DataW H} {n:Nat}:∀ {l:List (DataW H)},d∈l→n∈d.weights P e→n∈DataW.weightsAll P e l
 | [],h,_=>by cases h
 | a :: l,h,hn=>by
  simp only [DataW.weightsAll,List.mem_append]
  rcases List.mem_cons.1 h with rfl | h
  ·exact .inl hn
  ·exact .inr (J8 h hn)
theorem Jka (b off k:Nat):(⟨b,off,none⟩:Addr).add k=⟨b,off+k,none⟩:=by
 unfold Addr.add
 split
 ·rename_i h;subst h;rfl
 ·rfl
theorem Xx {α H:Type} {enc:TypeId×Value→H} {P:Program} {w:World} {t e:TypeId} {c:Nat} (vals:α→List Value) (cells:α→List PV) (Good:α→Prop)
  (ht:P.underlying t=some (.slice e)) (hc:P.cellsOf e=c) (hb:0<P.bytesOf e) (hvl:∀ x,(vals x).length=c) (hcl:∀ x,(cells x).length=c) (hsc:∀ x,∀ p∈cells x,p.scalar=true)
  (hrep:∀ (Im:Nat→Prop) x j p,(cells x)[j]? = some p→PRep w Im ((vals x).getD j undef) p)
  (each:∀ (fuel:Nat) (cs:List Value) (y:DataW H×List MemPlace),DataW.trod enc P w 0 (fun _=>true) true fuel e cs=some y→(∀ n∈y.1.weights P e,n≤reachBytes)→∃ x,Good x∧cs=vals x)
  {b:Nat} {v:Value} (hok:Cell.okWide P w .any b t v) {fuel:Nat} {x:DataW H×List MemPlace} (h:DataW.trod enc P w 0 (fun _=>true) true fuel t [v]=some x) (hz:∀ n∈x.1.weights P t,n≤reachBytes) :
  ∃ p:List α,p.length≤140737488355328∧(∀ a∈p,Good a)∧PRep w (Ja w) v (.sl (p.map cells)):=by
 rcases Go.Deep.open_slice ht h with ⟨e1,rfl⟩ | ⟨a,len,cap,m,n,D,Pl,e1,hb0,hl,hm,hmm,rfl,hx⟩
 ·obtain rfl:=(List.cons.inj e1).1
  exact ⟨[],by simp,by simp,PRep.slNil⟩
 ·obtain rfl:=(List.cons.inj e1).1
  simp only [Cell.okWide,Cell.ok,ht] at hok
  obtain ⟨_,_,_,hsp,row,cl,hshape,_⟩:=hok
  obtain ⟨blk,off,spot⟩:=a
  simp only at hsp
  subst hsp
  simp only [if_true] at hmm
  subst hmm
  have hreach:reachBytes≤140737488355328:=by decide
  have hlen:len≤140737488355328:=by
   have h1:=hz ((len+(m - len)) * P.bytesOf e) (by simp [DataW.weights,ht])
   have h2:len≤(len+(m - len)) * P.bytesOf e:=by
    have:(len+(m - len)) * 1≤(len+(m - len)) * P.bytesOf e:=Nat.mul_le_mul_left _ hb
    omega
   omega
  obtain ⟨p,hp,hq⟩:=Jkw (Q:=fun i x=>Good x∧w.cells? 0 ((⟨blk,off,none⟩:Addr).add (i * c)) c=some (vals x)) len fun i hi=>by
   obtain ⟨cs',h1,h2⟩:=hx i (by omega)
   rw [hc] at h1
   obtain ⟨x,hg,rfl⟩:=each n cs' _ h2 (fun k hk=>hz k (by
    simp only [DataW.weights,ht,List.mem_cons,List.mem_append]
    exact .inr (.inl (J8 (List.mem_map.2 ⟨i,List.mem_range.2 hi,rfl⟩) hk))))
   exact ⟨x,hg,h1⟩
  refine ⟨p,by omega,fun a ha=>?_,?_⟩
  ·obtain ⟨i,hi⟩:=List.getElem?_of_mem ha
   exact (hq i a hi).1
  ·have hblk:blk<w.heap.size:=by
    rcases Nat.lt_or_ge blk w.heap.size with h | h
    ·exact h
    ·unfold World.shape? at hshape
     rw [Array.getElem?_eq_none h] at hshape;cases hshape
   have e2:len=(p.map cells).length:=by simp [hp]
   have key:=PRep.sl (w:=w) (Im:=Ja w) blk off m c (p.map cells) (by rw [← e2];exact hl) hblk (fun i j=>match p[i]? with | some x=>(vals x).getD j undef | none=>undef)
    (fun r hr=>by obtain ⟨x,_,rfl⟩:=List.mem_map.1 hr;exact hcl x)
    (fun r hr=>by obtain ⟨x,_,rfl⟩:=List.mem_map.1 hr;exact hsc x)
    (fun i hi j hj=>by
     rw [← e2] at hi
     obtain ⟨x,hx'⟩:∃ x,p[i]? = some x:=⟨_,List.getElem?_eq_getElem (by omega)⟩
     have h1:=(World.cells?_some (hq i x hx').2).2.2 j hj
     rw [Go.Deep.add_add,Jka,← Nat.add_assoc] at h1
     rw [h1,hx']
     have h3:j<(vals x).length:=by rw [hvl];exact hj
     simp [List.getD_eq_getElem?_getD,List.getElem?_eq_getElem h3])
    (fun i r j q hr hq'=>by
     rw [List.getElem?_map] at hr
     cases hx':p[i]? with
     | none=>rw [hx'] at hr;cases hr
     | some x =>
      rw [hx'] at hr
      obtain rfl:=Option.some.inj hr
      exact hrep _ x j q hq')
   rw [← e2] at key
   exact key
theorem cBool:Tryz.prog.cellsOf 4=1:=by kernel_rfl
theorem cStr:Tryz.prog.cellsOf 9=1:=by kernel_rfl
theorem cInt:Tryz.prog.cellsOf 3=1:=by kernel_rfl
theorem cStep:Tryz.prog.cellsOf 47=3:=by kernel_rfl
theorem cNode:Tryz.prog.cellsOf 53=6:=by kernel_rfl
theorem bStep:0<Tryz.prog.bytesOf 47:=by decide +kernel
theorem bNode:0<Tryz.prog.bytesOf 53:=by decide +kernel
def Step.vals (x:Step):List Value:=[.bool x.part,.string ⟨⟨x.name⟩⟩,.int .i64 x.n]
def Node.vals (n:Node):List Value:=[.int .i64 n.kind,.int .i64 n.many,.string ⟨⟨n.name⟩⟩,.string ⟨⟨n.s⟩⟩,.bool n.neg,.int .i64 n.e]
theorem Jk6 {H:Type} {enc:TypeId×Value→H} {w:World} (fuel:Nat) (cs:List Value) (y:DataW H×List MemPlace) (h:DataW.trod enc Tryz.prog w 0 (fun _=>true) true fuel 47 cs=some y) (hz:∀ n∈y.1.weights Tryz.prog 47,n≤reachBytes) :
  ∃ x:Step,x.name.length≤140737488355328∧cs=x.vals:=by
 obtain ⟨xs,n,_,rfl,hl,hlen,hf⟩:=DataW.trod_struct Tryz.underlying47 h
 rw [cStep] at hl
 match xs,hlen,cs,hl with
 | [y0,y1,y2],_,[a,b,c],_ =>
  have g0:=hf 0 _ rfl
  have g1:=hf 1 _ rfl
  have g2:=hf 2 _ rfl
  simp only [cBool,cStr,cInt,List.drop_zero,List.drop_succ_cons,List.take_succ_cons,List.take_zero,List.getElem?_cons_zero,List.getElem?_cons_succ] at g0 g1 g2
  obtain ⟨x0,e0,rfl⟩:=DataW.trod_bool Tryz.underlying4 g0
  obtain ⟨x1,e1,rfl,_⟩:=DataW.trod_string Tryz.underlying9 g1
  obtain ⟨x2,e2,rfl,_⟩:=DataW.trod_int Tryz.underlying3 g2
  cases e0;cases e1;cases e2
  refine ⟨⟨x0,x1.data.toList,x2⟩,?_,?_⟩
  ·have h1:=hz x1.data.toList.length (by simp [DataW.weights,DataW.weightsEach,Tryz.underlying47])
   have hreach:reachBytes≤140737488355328:=by decide
   exact Nat.le_trans h1 hreach
  ·simp only [Step.vals,Jc3]
theorem Jly {H:Type} {enc:TypeId×Value→H} {w:World} (fuel:Nat) (cs:List Value) (y:DataW H×List MemPlace) (h:DataW.trod enc Tryz.prog w 0 (fun _=>true) true fuel 53 cs=some y) (_:∀ n∈y.1.weights Tryz.prog 53,n≤reachBytes) :
  ∃ x:Node,EFit x∧cs=x.vals:=by
 obtain ⟨xs,n,_,rfl,hl,hlen,hf⟩:=DataW.trod_struct Tryz.underlying53 h
 rw [cNode] at hl
 match xs,hlen,cs,hl with
 | [y0,y1,y2,y3,y4,y5],_,[a0,a1,a2,a3,a4,a5],_ =>
  have g0:=hf 0 _ rfl
  have g1:=hf 1 _ rfl
  have g2:=hf 2 _ rfl
  have g3:=hf 3 _ rfl
  have g4:=hf 4 _ rfl
  have g5:=hf 5 _ rfl
  simp only [cBool,cStr,cInt,List.drop_zero,List.drop_succ_cons,List.take_succ_cons,List.take_zero,List.getElem?_cons_zero,List.getElem?_cons_succ] at g0 g1 g2 g3 g4 g5
  obtain ⟨x0,e0,rfl,_⟩:=DataW.trod_int Tryz.underlying3 g0
  obtain ⟨x1,e1,rfl,_⟩:=DataW.trod_int Tryz.underlying3 g1
  obtain ⟨x2,e2,rfl,z2⟩:=DataW.trod_string Tryz.underlying9 g2
  obtain ⟨x3,e3,rfl,z3⟩:=DataW.trod_string Tryz.underlying9 g3
  obtain ⟨x4,e4,rfl⟩:=DataW.trod_bool Tryz.underlying4 g4
  obtain ⟨x5,e5,rfl,z5⟩:=DataW.trod_int Tryz.underlying3 g5
  cases e0;cases e1;cases e2;cases e3;cases e4;cases e5
  have hm:maxLen=9223372036854775807:=by decide
  have k1:IntKind.i64.min = -9223372036854775808:=by decide
  have k2:IntKind.i64.max=9223372036854775807:=by decide
  simp only [Lit.wf,Bool.and_eq_true,decide_eq_true_eq,k1,k2] at z5
  have s2:=T8 x2
  have s3:=T8 x3
  refine ⟨⟨x0,x1,x2.data.toList,x3.data.toList,x4,x5⟩,⟨?_,?_,z5.1,z5.2⟩,?_⟩
  ·show x3.data.toList.length≤_
   omega
  ·show x2.data.toList.length≤_
   omega
  ·simp only [Node.vals,Jc3]
theorem Jmi (w:World) (Im:Nat→Prop) (x:Step) (j:Nat) (p:PV) (h:x.cells[j]? = some p):PRep w Im (x.vals.getD j undef) p:=by
 match j,h with
 | 0,h=>cases h;exact PRep.bool _
 | 1,h=>cases h;exact PRep.str _
 | 2,h=>cases h;exact PRep.int _ _
 | j+3,h=>simp [Step.cells] at h
theorem Ji6 (w:World) (Im:Nat→Prop) (x:Node) (j:Nat) (p:PV) (h:x.cells[j]? = some p):PRep w Im (x.vals.getD j undef) p:=by
 match j,h with
 | 0,h=>cases h;exact PRep.int _ _
 | 1,h=>cases h;exact PRep.int _ _
 | 2,h=>cases h;exact PRep.str _
 | 3,h=>cases h;exact PRep.str _
 | 4,h=>cases h;exact PRep.bool _
 | 5,h=>cases h;exact PRep.int _ _
 | j+6,h=>simp [Node.cells] at h
theorem Z7 {H:Type} {enc:TypeId×Value→H} {w:World} {b:Nat} {v:Value} (hok:Cell.okWide Tryz.prog w .any b 23 v) {fuel:Nat} {x:DataW H×List MemPlace} (h:DataW.trod enc Tryz.prog w 0 (fun _=>true) true fuel 23 [v]=some x) (hz:∀ n∈x.1.weights Tryz.prog 23,n≤reachBytes) :
  ∃ p:List Step,PathFit p∧PRep w (Ja w) v (.sl (Bb p)):=by
 obtain ⟨p,h1,h2,h3⟩:=Xx Step.vals Step.cells (fun x=>x.name.length≤140737488355328) Tryz.underlying23 cStep bStep (fun _=>rfl) (fun _=>rfl) (fun x p hp=>by simp [Step.cells] at hp;rcases hp with rfl | rfl | rfl <;> rfl) (Jmi w) Jk6 hok h hz
 exact ⟨p,⟨h1,h2⟩,h3⟩
theorem Vt {H:Type} {enc:TypeId×Value→H} {w:World} {b:Nat} {v:Value} (hok:Cell.okWide Tryz.prog w .any b 34 v) {fuel:Nat} {x:DataW H×List MemPlace} (h:DataW.trod enc Tryz.prog w 0 (fun _=>true) true fuel 34 [v]=some x) (hz:∀ n∈x.1.weights Tryz.prog 34,n≤reachBytes) :
  ∃ p:List Node,ValFit p∧PRep w (Ja w) v (.sl (valL p)):=by
 obtain ⟨p,h1,h2,h3⟩:=Xx Node.vals Node.cells EFit Tryz.underlying34 cNode bNode (fun _=>rfl) (fun _=>rfl) (fun x p hp=>by simp [Node.cells] at hp;rcases hp with rfl | rfl | rfl | rfl | rfl | rfl <;> rfl) (Ji6 w) Jly hok h hz
 exact ⟨p,⟨h1,h2⟩,h3⟩
theorem Jkh {P:Program} {W:World} {r:Reach} {b:Nat} {t e:TypeId} {v:Value} (ht:P.underlying t=some (.slice e)) (h:Cell.okWide P W r b t v):v.cells.toList=[v]:=by
 simp only [Cell.okWide,Cell.ok,ht] at h
 cases v <;> first | rfl | (simp at h;done)
theorem J0 {H:Type} {P:Program} {ts:List TypeId} {ds:List (DataW H)} (hz:(DataW.weightsEach P ts ds).all (· ≤ reachBytes)=true) {j:Nat} {t:TypeId} {d:DataW H} (h1:ts[j]? = some t) (h2:ds[j]? = some d):∀ n∈d.weights P t,n≤reachBytes:=fun n hn=>by
 simpa using List.all_eq_true.1 hz n (DataW.weights_mem_each h1 h2 n hn)
theorem N3 {H:Type} {enc:TypeId×Value→H} {w:World} {b:Nat} {v:Value} {d:DataW H} {q:List MemPlace} {ts:List TypeId} {ds:List (DataW H)} (hok:Value.okWide Tryz.prog w .any b 34 v) (h:DataW.Trod enc Tryz.prog w 0 (fun _=>true) true 34 v d q)
  (hz:(DataW.weightsEach Tryz.prog ts ds).all (· ≤ reachBytes)=true) {j:Nat} (h1:ts[j]? = some 34) (h2:ds[j]? = some d):∃ p:List Node,ValFit p∧PRep w (Ja w) v (.sl (valL p)):=by
 simp only [Value.okWide,Tryz.underlying34] at hok
 obtain ⟨fuel,h⟩:=h
 rw [Jkh Tryz.underlying34 hok] at h
 exact Vt hok h (J0 hz h1 h2)
theorem Jdf {w:World} {Im:Nat→Prop} {a b:Value} {x y:PV} (hx:x.scalar=true) (hy:y.scalar=true) (ha:PRep w Im a x) (hb:PRep w Im b y):PRep w Im (.agg ⟨[a,b]⟩) (.agg [x,y]):=by
 refine PRep.agg _ _ rfl (by simp [hx,hy]) fun i v p hv hp=>?_
 match i,hv,hp with
 | 0,hv,hp=>cases hv;cases hp;exact ha
 | 1,hv,hp=>cases hv;cases hp;exact hb
 | i+2,hv,hp=>simp at hv
theorem cPath2:Tryz.prog.cellsOf 32=2:=by kernel_rfl
theorem Jo3:Tryz.prog.cellsOf 23=1:=by kernel_rfl
theorem tPath2:Tryz.prog.cellTypes Tryz.prog.depth 32=some [23,23]:=by kernel_rfl
theorem Mx {H:Type} {enc:TypeId×Value→H} {w:World} {b:Nat} {v:Value} {d:DataW H} {q:List MemPlace} {ts:List TypeId} {ds:List (DataW H)} (hok:Value.okWide Tryz.prog w .any b 32 v) (h:DataW.Trod enc Tryz.prog w 0 (fun _=>true) true 32 v d q)
  (hz:(DataW.weightsEach Tryz.prog ts ds).all (· ≤ reachBytes)=true) {j:Nat} (h1:ts[j]? = some 32) (h2:ds[j]? = some d):∃ p r:List Step,PathFit p∧PathFit r∧PRep w (Ja w) v (.agg [.sl (Bb p),.sl (Bb r)]):=by
 simp only [Value.okWide,Tryz.underlying32] at hok
 obtain ⟨cs,rfl,hs,ts',hts,_,hc⟩:=hok
 rw [cPath2] at hs
 rw [tPath2] at hts
 cases hts
 obtain ⟨l⟩:=cs
 have hw:=J0 hz h1 h2
 obtain ⟨fuel,h⟩:=h
 obtain ⟨xs,m,_,e1,hl,hlen,hf⟩:=DataW.trod_array Tryz.underlying32 h
 match l,hs,hc,xs,hlen with
 | [a0,a1],_,hc,[y0,y1],_ =>
  obtain ⟨u0,g0,k0⟩:=hc 0 a0 rfl
  obtain ⟨u1,g1,k1⟩:=hc 1 a1 rfl
  cases g0;cases g1
  have f0:=hf 0 (by omega)
  have f1:=hf 1 (by omega)
  simp only [Jo3,Value.cells,List.drop_zero,Nat.zero_mul,Nat.one_mul,List.drop_succ_cons,List.take_succ_cons,List.take_zero,List.getElem?_cons_zero,List.getElem?_cons_succ] at f0 f1
  obtain rfl:d=.agg [y0.1,y1.1]:=by simpa using (Prod.mk.inj e1).1
  obtain ⟨p,hp,rp⟩:=Z7 k0 f0 (fun n hn=>hw n (by simp [DataW.weights,DataW.weightsAll,Tryz.underlying32,hn]))
  obtain ⟨r,hr,rr⟩:=Z7 k1 f1 (fun n hn=>hw n (by simp [DataW.weights,DataW.weightsAll,Tryz.underlying32,hn]))
  exact ⟨p,r,hp,hr,Jdf rfl rfl rp rr⟩
theorem cVal2:Tryz.prog.cellsOf 42=2:=by kernel_rfl
theorem c1Val2:Tryz.prog.cellsOf 34=1:=by kernel_rfl
theorem tVal2:Tryz.prog.cellTypes Tryz.prog.depth 42=some [34,34]:=by kernel_rfl
theorem Jm8 {H:Type} {enc:TypeId×Value→H} {w:World} {b:Nat} {v:Value} {d:DataW H} {q:List MemPlace} {ts:List TypeId} {ds:List (DataW H)} (hok:Value.okWide Tryz.prog w .any b 42 v) (h:DataW.Trod enc Tryz.prog w 0 (fun _=>true) true 42 v d q)
  (hz:(DataW.weightsEach Tryz.prog ts ds).all (· ≤ reachBytes)=true) {j:Nat} (h1:ts[j]? = some 42) (h2:ds[j]? = some d):∃ p r:List Node,ValFit p∧ValFit r∧PRep w (Ja w) v (.agg [.sl (valL p),.sl (valL r)]):=by
 simp only [Value.okWide,Tryz.underlying42] at hok
 obtain ⟨cs,rfl,hs,ts',hts,_,hc⟩:=hok
 rw [cVal2] at hs
 rw [tVal2] at hts
 cases hts
 obtain ⟨l⟩:=cs
 have hw:=J0 hz h1 h2
 obtain ⟨fuel,h⟩:=h
 obtain ⟨xs,m,_,e1,hl,hlen,hf⟩:=DataW.trod_array Tryz.underlying42 h
 match l,hs,hc,xs,hlen with
 | [a0,a1],_,hc,[y0,y1],_ =>
  obtain ⟨u0,g0,k0⟩:=hc 0 a0 rfl
  obtain ⟨u1,g1,k1⟩:=hc 1 a1 rfl
  cases g0;cases g1
  have f0:=hf 0 (by omega)
  have f1:=hf 1 (by omega)
  simp only [c1Val2,Value.cells,List.drop_zero,Nat.zero_mul,Nat.one_mul,List.drop_succ_cons,List.take_succ_cons,List.take_zero,List.getElem?_cons_zero,List.getElem?_cons_succ] at f0 f1
  obtain rfl:d=.agg [y0.1,y1.1]:=by simpa using (Prod.mk.inj e1).1
  obtain ⟨p,hp,rp⟩:=Vt k0 f0 (fun n hn=>hw n (by simp [DataW.weights,DataW.weightsAll,Tryz.underlying42,hn]))
  obtain ⟨r,hr,rr⟩:=Vt k1 f1 (fun n hn=>hw n (by simp [DataW.weights,DataW.weightsAll,Tryz.underlying42,hn]))
  exact ⟨p,r,hp,hr,Jdf rfl rfl rp rr⟩
end Go.LX
