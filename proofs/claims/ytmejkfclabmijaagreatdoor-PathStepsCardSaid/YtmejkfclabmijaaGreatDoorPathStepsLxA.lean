/- The laws on paths: PathSteps. -/
import Derived.Test.YtmejkfclabmijaaGreatDoorLxZ
set_option linter.unusedSimpArgs false
set_option linter.unusedVariables false
set_option linter.unusedSectionVars false
set_option linter.unnecessarySimpa false
set_option maxRecDepth 100000
set_option maxHeartbeats 2000000
namespace Go.LX
open Go Go.RowKit Go.Proofs
attribute [local irreducible] Al SWP Bi
theorem Ua {p q:List Step} {y:Step} {q':List Step} (hp:p≠[]) (hq:q=y :: q') (hy:y.part=false):Hy (p ++ q)=Hy p ++ Hy q:=by
 subst hq
 cases p with
 | nil=>exact absurd rfl hp
 | cons x p =>
  have e2:Hy (y :: q')=Br (y :: q'):=by
   show (if y.part=true then _ else _)=_
   rw [if_neg (by simp [hy])]
  have e3:Br (x :: p ++ y :: q')=Br (x :: p) ++ Br (y :: q'):=Uf _ _
  show (if x.part=true then 46 :: Br (x :: p ++ y :: q') else Br (x :: p ++ y :: q'))=(if x.part=true then 46 :: Br (x :: p) else Br (x :: p)) ++ Hy (y :: q')
  rw [e2,e3]
  split <;> rfl
theorem Mn {p:List Step} (hl:p.length≤40) (hok:∀ x∈p,Bc x) (hn:∀ x∈p,x.name.length≤1000):(Hy p).length≤300000:=by
 have h1:=Rd hok hn
 unfold Hy
 cases p with
 | nil=>simp
 | cons x q=>simp only;simp only [List.length_cons] at hl h1;split <;> simp <;> omega
theorem Xh (p q:List Step) (v:List Node) (hp:PathFit p) (hq:PathFit q) (hv:ValFit v):Det cx 8 [.p (.agg [.sl (Bb p),.sl (Bb q)]),.p (.sl (valL v))] [] (.p (.bool true)) []:=by
 have tr:True:=trivial
 have p0:=tr
 have c0:=tr
 have s0:=tr
 have t0:=tr
 have a0:=tr
 have n0:=tr
 have m0:=tr
 have f0:=tr
 have f1:=tr
 have h0:=tr
 have w0:=tr
 have e0:=tr
 have e1:=tr
 skip
 have hFp:=Pe p hp.len hp.name
 by_cases fp:fewP p
 ·rw [decide_eq_true fp] at hFp
  have hFq:=Pe q hq.len hq.name
  by_cases fq:fewP q
  ·rw [decide_eq_true fq] at hFq
   have hOp:=D4 p (by have:=fp.1;omega) (fun x hx=>by have:=fp.2 x hx;omega)
   by_cases op:E9 p
   ·rw [decide_eq_true op] at hOp
    have hOq:=D4 q (by have:=fq.1;omega) (fun x hx=>by have:=fq.2 x hx;omega)
    by_cases oq:E9 q
    ·rw [decide_eq_true oq] at hOq
     have hFv:=Ln v 60 (by decide) (by have:=hv.len;omega) hv.node
     cases bv:fewB v 60 with
     | false =>
      rw [bv] at hFv
      (refine Al.of_code (X:=cx) false [] (by simp) Tryz.func8 (by kernel_rfl) rfl (by simp only [List.length_cons,List.length_nil,Tryz.ntmps8];decide) (by simp) ?_;refine Ae hm _ _ _ ?_;simp only [Tryz.ntmps8,Tryz.results8,go_sem,Nat.reduceLT,Nat.reduceLeDiff,Nat.reduceEqDiff,Nat.reduceAdd,Nat.reduceSub,Nat.reduceMul,Nat.reduceBEq,Int.reduceToNat,Int.reduceLT,Int.reduceLE,Int.reduceEq,Int.reduceAdd,Int.reduceSub,Int.reduceNeg,↓reduceIte,reduceCtorEq,p0,c0,s0,t0,a0,n0,m0,f0,f1,h0,w0,e0,e1,Aq,if_true,if_false])
      (repeat' (first | (refine iteI (fun h=>?_) (fun h=>?_))|(refine Ak (by first | omega | (simp (disch:=omega) only [Aa,Ab,Ac] at *;omega)) ?_;intro b hb)|(refine And.intro (by first | omega | (simp (disch:=omega) only [Aa,Ab,Ac] at *;omega)) ?_)|((first | (refine Ah hm (by rfl) (by kernel_rfl) ?_)|(refine Det.use (hFp) ?_)|(refine Det.useQ (hFp) ?_)|(refine Ag.use (hFp) ?_)|(refine Ad.use (hFp) ?_)|(refine Det.use (hFq) ?_)|(refine Det.useQ (hFq) ?_)|(refine Ag.use (hFq) ?_)|(refine Ad.use (hFq) ?_)|(refine Det.use (hOp) ?_)|(refine Det.useQ (hOp) ?_)|(refine Ag.use (hOp) ?_)|(refine Ad.use (hOp) ?_)|(refine Det.use (hOq) ?_)|(refine Det.useQ (hOq) ?_)|(refine Ag.use (hOq) ?_)|(refine Ad.use (hOq) ?_)|(refine Det.use (hFv) ?_)|(refine Det.useQ (hFv) ?_)|(refine Ag.use (hFv) ?_)|(refine Ad.use (hFv) ?_)|(refine Det.use (Av) ?_)|(refine Det.useQ (Av) ?_));simp only [go_sem,Nat.reduceLT,Nat.reduceEqDiff,Nat.reduceMul,Int.reduceToNat,Int.reduceLE,↓reduceIte,reduceCtorEq])|(exact True.intro)|(exfalso;omega)))
     | true =>
      rw [bv] at hFv
      obtain ⟨t,ht,rfl,htl,htf⟩:=Fw hv bv
      have npl:p.length≤31:=fp.1
      have nql:q.length≤31:=fq.1
      have npn:∀ x∈p,x.name.length≤1000000:=fun x hx=>by have:=fp.2 x hx;omega
      have nqn:∀ x∈q,x.name.length≤1000000:=fun x hx=>by have:=fq.2 x hx;omega
      have w0:IntKind.i64.wrap ((p.length:Int)+(q.length:Int))=((p.length+q.length:Nat):Int):=by rw [Aa (by omega) (by omega)];omega
      by_cases hl20:20<p.length+q.length
      ·have c0:((20:Int)<((p.length+q.length:Nat):Int))=True:=eq_true (by omega)
       (refine Al.of_code (X:=cx) false [] (by simp) Tryz.func8 (by kernel_rfl) rfl (by simp only [List.length_cons,List.length_nil,Tryz.ntmps8];decide) (by simp) ?_;refine Ae hm _ _ _ ?_;simp only [Tryz.ntmps8,Tryz.results8,go_sem,Nat.reduceLT,Nat.reduceLeDiff,Nat.reduceEqDiff,Nat.reduceAdd,Nat.reduceSub,Nat.reduceMul,Nat.reduceBEq,Int.reduceToNat,Int.reduceLT,Int.reduceLE,Int.reduceEq,Int.reduceAdd,Int.reduceSub,Int.reduceNeg,↓reduceIte,reduceCtorEq,p0,c0,s0,t0,a0,n0,m0,f0,f1,h0,w0,e0,e1,Aq,if_true,if_false])
       (repeat' (first | (refine iteI (fun h=>?_) (fun h=>?_))|(refine Ak (by first | omega | (simp (disch:=omega) only [Aa,Ab,Ac] at *;omega)) ?_;intro b hb)|(refine And.intro (by first | omega | (simp (disch:=omega) only [Aa,Ab,Ac] at *;omega)) ?_)|((first | (refine Ah hm (by rfl) (by kernel_rfl) ?_)|(refine Det.use (hFp) ?_)|(refine Det.useQ (hFp) ?_)|(refine Ag.use (hFp) ?_)|(refine Ad.use (hFp) ?_)|(refine Det.use (hFq) ?_)|(refine Det.useQ (hFq) ?_)|(refine Ag.use (hFq) ?_)|(refine Ad.use (hFq) ?_)|(refine Det.use (hOp) ?_)|(refine Det.useQ (hOp) ?_)|(refine Ag.use (hOp) ?_)|(refine Ad.use (hOp) ?_)|(refine Det.use (hOq) ?_)|(refine Det.useQ (hOq) ?_)|(refine Ag.use (hOq) ?_)|(refine Ad.use (hOq) ?_)|(refine Det.use (hFv) ?_)|(refine Det.useQ (hFv) ?_)|(refine Ag.use (hFv) ?_)|(refine Ad.use (hFv) ?_)|(refine Det.use (Av) ?_)|(refine Det.useQ (Av) ?_));simp only [go_sem,Nat.reduceLT,Nat.reduceEqDiff,Nat.reduceMul,Int.reduceToNat,Int.reduceLE,↓reduceIte,reduceCtorEq,c0,w0,Aq])|(exact True.intro)|(exfalso;omega)))
      ·have c0:((20:Int)<((p.length+q.length:Nat):Int))=False:=eq_false (by omega)
       have s0:Bb p ++ Bb q=Bb (p ++ q):=(Kn p q).symm
       have e0:∀ n,n=p.length+q.length→(Bb (p ++ q)).take n=Bb (p ++ q):=fun n hn=>List.take_of_length_le (by rw [Aq,List.length_append];omega)
       have t0:=e0 (p.length+q.length) rfl
       have a0:(p ++ q).length=p.length+q.length:=List.length_append
       have n0:(p.length+q.length≤p.length+q.length)=True:=eq_true (Nat.le_refl _)
       have hoall:∀ x∈p ++ q,Bc x:=fun x hx=>(List.mem_append.1 hx).elim (op.2 x) (oq.2 x)
       have hnall:∀ x∈p ++ q,x.name.length≤1000:=fun x hx=>(List.mem_append.1 hx).elim (fun h=>by have:=fp.2 x h;omega) (fun h=>by have:=fq.2 x h;omega)
       have g1:=M1 (p ++ q) t (by omega) hoall (by omega)
       have g2:=M1 p t (by omega) op.2 (by omega)
       rw [Zk] at g1
       cases hg:getT p t with
       | error e =>
        rw [hg] at g1 g2
        have he:=Jec hg
        simp only at g1
        unfold getR at g1 g2
        rcases he with rfl | rfl
        ·(refine Al.of_code (X:=cx) false [] (by simp) Tryz.func8 (by kernel_rfl) rfl (by simp only [List.length_cons,List.length_nil,Tryz.ntmps8];decide) (by simp) ?_;refine Ae hm _ _ _ ?_;simp only [Tryz.ntmps8,Tryz.results8,go_sem,Nat.reduceLT,Nat.reduceLeDiff,Nat.reduceEqDiff,Nat.reduceAdd,Nat.reduceSub,Nat.reduceMul,Nat.reduceBEq,Int.reduceToNat,Int.reduceLT,Int.reduceLE,Int.reduceEq,Int.reduceAdd,Int.reduceSub,Int.reduceNeg,↓reduceIte,reduceCtorEq,p0,c0,s0,t0,a0,n0,m0,f0,f1,h0,w0,e0,e1,Aq,if_true,if_false])
         (repeat' (first | (refine iteI (fun h=>?_) (fun h=>?_))|(refine Ak (by first | omega | (simp (disch:=omega) only [Aa,Ab,Ac] at *;omega)) ?_;intro b hb)|(refine And.intro (by first | omega | (simp (disch:=omega) only [Aa,Ab,Ac] at *;omega)) ?_)|((first | (refine Ah hm (by rfl) (by kernel_rfl) ?_)|(refine Det.use (hFp) ?_)|(refine Det.useQ (hFp) ?_)|(refine Ag.use (hFp) ?_)|(refine Ad.use (hFp) ?_)|(refine Det.use (hFq) ?_)|(refine Det.useQ (hFq) ?_)|(refine Ag.use (hFq) ?_)|(refine Ad.use (hFq) ?_)|(refine Det.use (hOp) ?_)|(refine Det.useQ (hOp) ?_)|(refine Ag.use (hOp) ?_)|(refine Ad.use (hOp) ?_)|(refine Det.use (hOq) ?_)|(refine Det.useQ (hOq) ?_)|(refine Ag.use (hOq) ?_)|(refine Ad.use (hOq) ?_)|(refine Det.use (hFv) ?_)|(refine Det.useQ (hFv) ?_)|(refine Ag.use (hFv) ?_)|(refine Ad.use (hFv) ?_)|(refine Det.use (Av) ?_)|(refine Det.useQ (Av) ?_)|(refine Det.use (g1) ?_)|(refine Det.useQ (g1) ?_)|(refine Ag.use (g1) ?_)|(refine Ad.use (g1) ?_)|(refine Det.use (g2) ?_)|(refine Det.useQ (g2) ?_)|(refine Ag.use (g2) ?_)|(refine Ad.use (g2) ?_));simp only [go_sem,Nat.reduceLT,Nat.reduceLeDiff,Nat.reduceEqDiff,Nat.reduceAdd,Nat.reduceMul,Int.reduceToNat,Int.reduceLE,↓reduceIte,reduceCtorEq,c0,s0,t0,a0,n0,w0,Aq])|(refine And.intro (Bp _) ?_)|(exact True.intro)|(exfalso;omega)))
        ·(refine Al.of_code (X:=cx) false [] (by simp) Tryz.func8 (by kernel_rfl) rfl (by simp only [List.length_cons,List.length_nil,Tryz.ntmps8];decide) (by simp) ?_;refine Ae hm _ _ _ ?_;simp only [Tryz.ntmps8,Tryz.results8,go_sem,Nat.reduceLT,Nat.reduceLeDiff,Nat.reduceEqDiff,Nat.reduceAdd,Nat.reduceSub,Nat.reduceMul,Nat.reduceBEq,Int.reduceToNat,Int.reduceLT,Int.reduceLE,Int.reduceEq,Int.reduceAdd,Int.reduceSub,Int.reduceNeg,↓reduceIte,reduceCtorEq,p0,c0,s0,t0,a0,n0,m0,f0,f1,h0,w0,e0,e1,Aq,if_true,if_false])
         (repeat' (first | (refine iteI (fun h=>?_) (fun h=>?_))|(refine Ak (by first | omega | (simp (disch:=omega) only [Aa,Ab,Ac] at *;omega)) ?_;intro b hb)|(refine And.intro (by first | omega | (simp (disch:=omega) only [Aa,Ab,Ac] at *;omega)) ?_)|((first | (refine Ah hm (by rfl) (by kernel_rfl) ?_)|(refine Det.use (hFp) ?_)|(refine Det.useQ (hFp) ?_)|(refine Ag.use (hFp) ?_)|(refine Ad.use (hFp) ?_)|(refine Det.use (hFq) ?_)|(refine Det.useQ (hFq) ?_)|(refine Ag.use (hFq) ?_)|(refine Ad.use (hFq) ?_)|(refine Det.use (hOp) ?_)|(refine Det.useQ (hOp) ?_)|(refine Ag.use (hOp) ?_)|(refine Ad.use (hOp) ?_)|(refine Det.use (hOq) ?_)|(refine Det.useQ (hOq) ?_)|(refine Ag.use (hOq) ?_)|(refine Ad.use (hOq) ?_)|(refine Det.use (hFv) ?_)|(refine Det.useQ (hFv) ?_)|(refine Ag.use (hFv) ?_)|(refine Ad.use (hFv) ?_)|(refine Det.use (Av) ?_)|(refine Det.useQ (Av) ?_)|(refine Det.use (g1) ?_)|(refine Det.useQ (g1) ?_)|(refine Ag.use (g1) ?_)|(refine Ad.use (g1) ?_)|(refine Det.use (g2) ?_)|(refine Det.useQ (g2) ?_)|(refine Ag.use (g2) ?_)|(refine Ad.use (g2) ?_));simp only [go_sem,Nat.reduceLT,Nat.reduceLeDiff,Nat.reduceEqDiff,Nat.reduceAdd,Nat.reduceMul,Int.reduceToNat,Int.reduceLE,↓reduceIte,reduceCtorEq,c0,s0,t0,a0,n0,w0,Aq])|(refine And.intro (Bp _) ?_)|(exact True.intro)|(exfalso;omega)))
       | ok w =>
        have hwl:=Qm hg
        have hwo:=Joe ht hg
        have g3:=M1 q w (by omega) oq.2 (by omega)
        rw [hg] at g1 g2
        simp only at g1
        have x1:=Ui p (by omega) op.2 (fun x hx=>hnall x (List.mem_append_left _ hx))
        have x2:=Ui q (by omega) oq.2 (fun x hx=>hnall x (List.mem_append_right _ hx))
        have x3:=Ui (p ++ q) (by omega) hoall hnall
        cases hz:getT q w with
        | error e =>
         rw [hz] at g1 g3
         unfold getR at g1 g2 g3
         have s1:=Jz
         have hpE:p=[]∨p≠[]:=Classical.em _
         rcases hpE with hpE | hpE
         ·have f0:((p.length:Int)=0)=True:=eq_true (by rw [hpE];rfl)
          (refine Al.of_code (X:=cx) false [] (by simp) Tryz.func8 (by kernel_rfl) rfl (by simp only [List.length_cons,List.length_nil,Tryz.ntmps8];decide) (by simp) ?_;refine Ae hm _ _ _ ?_;simp only [Tryz.ntmps8,Tryz.results8,go_sem,Nat.reduceLT,Nat.reduceLeDiff,Nat.reduceEqDiff,Nat.reduceAdd,Nat.reduceSub,Nat.reduceMul,Nat.reduceBEq,Int.reduceToNat,Int.reduceLT,Int.reduceLE,Int.reduceEq,Int.reduceAdd,Int.reduceSub,Int.reduceNeg,↓reduceIte,reduceCtorEq,p0,c0,s0,t0,a0,n0,m0,f0,f1,h0,w0,e0,e1,Aq,if_true,if_false])
          (repeat' (first | (refine iteI (fun h=>?_) (fun h=>?_))|(refine Ak (by first | omega | (simp (disch:=omega) only [Aa,Ab,Ac] at *;omega)) ?_;intro b hb)|(refine And.intro (by first | omega | (simp (disch:=omega) only [Aa,Ab,Ac] at *;omega)) ?_)|((first | (refine Ah hm (by rfl) (by kernel_rfl) ?_)|(refine Det.use (hFp) ?_)|(refine Det.useQ (hFp) ?_)|(refine Ag.use (hFp) ?_)|(refine Ad.use (hFp) ?_)|(refine Det.use (hFq) ?_)|(refine Det.useQ (hFq) ?_)|(refine Ag.use (hFq) ?_)|(refine Ad.use (hFq) ?_)|(refine Det.use (hOp) ?_)|(refine Det.useQ (hOp) ?_)|(refine Ag.use (hOp) ?_)|(refine Ad.use (hOp) ?_)|(refine Det.use (hOq) ?_)|(refine Det.useQ (hOq) ?_)|(refine Ag.use (hOq) ?_)|(refine Ad.use (hOq) ?_)|(refine Det.use (hFv) ?_)|(refine Det.useQ (hFv) ?_)|(refine Ag.use (hFv) ?_)|(refine Ad.use (hFv) ?_)|(refine Det.use (Av) ?_)|(refine Det.useQ (Av) ?_)|(refine Det.use (g1) ?_)|(refine Det.useQ (g1) ?_)|(refine Ag.use (g1) ?_)|(refine Ad.use (g1) ?_)|(refine Det.use (g2) ?_)|(refine Det.useQ (g2) ?_)|(refine Ag.use (g2) ?_)|(refine Ad.use (g2) ?_)|(refine Det.use (g3) ?_)|(refine Det.useQ (g3) ?_)|(refine Ag.use (g3) ?_)|(refine Ad.use (g3) ?_)|(refine Det.use (s1) ?_)|(refine Det.useQ (s1) ?_)|(refine Ag.use (s1) ?_)|(refine Ad.use (s1) ?_)|(refine Det.use (x1) ?_)|(refine Det.useQ (x1) ?_)|(refine Ag.use (x1) ?_)|(refine Ad.use (x1) ?_)|(refine Det.use (x2) ?_)|(refine Det.useQ (x2) ?_)|(refine Ag.use (x2) ?_)|(refine Ad.use (x2) ?_)|(refine Det.use (x3) ?_)|(refine Det.useQ (x3) ?_)|(refine Ag.use (x3) ?_)|(refine Ad.use (x3) ?_));simp only [go_sem,Nat.reduceLT,Nat.reduceLeDiff,Nat.reduceEqDiff,Nat.reduceAdd,Nat.reduceMul,Int.reduceToNat,Int.reduceLE,↓reduceIte,reduceCtorEq,c0,s0,t0,a0,n0,f0,w0,Aq])|(refine And.intro (Bp _) ?_)|(exact True.intro)|(exfalso;omega)))
         ·have f0:((p.length:Int)=0)=False:=eq_false (fun h=>hpE (List.eq_nil_of_length_eq_zero (by omega)))
          cases hqE:q with
          | nil =>
           rw [← hqE]
           have f1:((q.length:Int)=0)=True:=eq_true (by rw [hqE];rfl)
           (refine Al.of_code (X:=cx) false [] (by simp) Tryz.func8 (by kernel_rfl) rfl (by simp only [List.length_cons,List.length_nil,Tryz.ntmps8];decide) (by simp) ?_;refine Ae hm _ _ _ ?_;simp only [Tryz.ntmps8,Tryz.results8,go_sem,Nat.reduceLT,Nat.reduceLeDiff,Nat.reduceEqDiff,Nat.reduceAdd,Nat.reduceSub,Nat.reduceMul,Nat.reduceBEq,Int.reduceToNat,Int.reduceLT,Int.reduceLE,Int.reduceEq,Int.reduceAdd,Int.reduceSub,Int.reduceNeg,↓reduceIte,reduceCtorEq,p0,c0,s0,t0,a0,n0,m0,f0,f1,h0,w0,e0,e1,Aq,if_true,if_false])
           (repeat' (first | (refine iteI (fun h=>?_) (fun h=>?_))|(refine Ak (by first | omega | (simp (disch:=omega) only [Aa,Ab,Ac] at *;omega)) ?_;intro b hb)|(refine And.intro (by first | omega | (simp (disch:=omega) only [Aa,Ab,Ac] at *;omega)) ?_)|((first | (refine Ah hm (by rfl) (by kernel_rfl) ?_)|(refine Det.use (hFp) ?_)|(refine Det.useQ (hFp) ?_)|(refine Ag.use (hFp) ?_)|(refine Ad.use (hFp) ?_)|(refine Det.use (hFq) ?_)|(refine Det.useQ (hFq) ?_)|(refine Ag.use (hFq) ?_)|(refine Ad.use (hFq) ?_)|(refine Det.use (hOp) ?_)|(refine Det.useQ (hOp) ?_)|(refine Ag.use (hOp) ?_)|(refine Ad.use (hOp) ?_)|(refine Det.use (hOq) ?_)|(refine Det.useQ (hOq) ?_)|(refine Ag.use (hOq) ?_)|(refine Ad.use (hOq) ?_)|(refine Det.use (hFv) ?_)|(refine Det.useQ (hFv) ?_)|(refine Ag.use (hFv) ?_)|(refine Ad.use (hFv) ?_)|(refine Det.use (Av) ?_)|(refine Det.useQ (Av) ?_)|(refine Det.use (g1) ?_)|(refine Det.useQ (g1) ?_)|(refine Ag.use (g1) ?_)|(refine Ad.use (g1) ?_)|(refine Det.use (g2) ?_)|(refine Det.useQ (g2) ?_)|(refine Ag.use (g2) ?_)|(refine Ad.use (g2) ?_)|(refine Det.use (g3) ?_)|(refine Det.useQ (g3) ?_)|(refine Ag.use (g3) ?_)|(refine Ad.use (g3) ?_)|(refine Det.use (s1) ?_)|(refine Det.useQ (s1) ?_)|(refine Ag.use (s1) ?_)|(refine Ad.use (s1) ?_)|(refine Det.use (x1) ?_)|(refine Det.useQ (x1) ?_)|(refine Ag.use (x1) ?_)|(refine Ad.use (x1) ?_)|(refine Det.use (x2) ?_)|(refine Det.useQ (x2) ?_)|(refine Ag.use (x2) ?_)|(refine Ad.use (x2) ?_)|(refine Det.use (x3) ?_)|(refine Det.useQ (x3) ?_)|(refine Ag.use (x3) ?_)|(refine Ad.use (x3) ?_));simp only [go_sem,Nat.reduceLT,Nat.reduceLeDiff,Nat.reduceEqDiff,Nat.reduceAdd,Nat.reduceMul,Int.reduceToNat,Int.reduceLE,↓reduceIte,reduceCtorEq,c0,s0,t0,a0,n0,f0,f1,w0,Aq])|(refine And.intro (Bp _) ?_)|(exact True.intro)|(exfalso;omega)))
          | cons z q' =>
           rw [← hqE]
           have f1:((q.length:Int)=0)=False:=eq_false (by rw [hqE];simp;omega)
           have h0:(Bb q)[0]? = some [.bool z.part,.str z.name,.int .i64 z.n]:=by rw [hqE];rfl
           have f2:((0:Int)<(q.length:Int))=True:=eq_true (by rw [hqE];simp)
           have e1:=f2
           cases hzp:z.part with
           | true =>
            have m0:=hzp
            (refine Al.of_code (X:=cx) false [] (by simp) Tryz.func8 (by kernel_rfl) rfl (by simp only [List.length_cons,List.length_nil,Tryz.ntmps8];decide) (by simp) ?_;refine Ae hm _ _ _ ?_;simp only [Tryz.ntmps8,Tryz.results8,go_sem,Nat.reduceLT,Nat.reduceLeDiff,Nat.reduceEqDiff,Nat.reduceAdd,Nat.reduceSub,Nat.reduceMul,Nat.reduceBEq,Int.reduceToNat,Int.reduceLT,Int.reduceLE,Int.reduceEq,Int.reduceAdd,Int.reduceSub,Int.reduceNeg,↓reduceIte,reduceCtorEq,p0,c0,s0,t0,a0,n0,m0,f0,f1,h0,w0,e0,e1,Aq,if_true,if_false])
            (repeat' (first | (refine iteI (fun h=>?_) (fun h=>?_))|(refine Ak (by first | omega | (simp (disch:=omega) only [Aa,Ab,Ac] at *;omega)) ?_;intro b hb)|(refine And.intro (by first | omega | (simp (disch:=omega) only [Aa,Ab,Ac] at *;omega)) ?_)|((first | (refine Ah hm (by rfl) (by kernel_rfl) ?_)|(refine Det.use (hFp) ?_)|(refine Det.useQ (hFp) ?_)|(refine Ag.use (hFp) ?_)|(refine Ad.use (hFp) ?_)|(refine Det.use (hFq) ?_)|(refine Det.useQ (hFq) ?_)|(refine Ag.use (hFq) ?_)|(refine Ad.use (hFq) ?_)|(refine Det.use (hOp) ?_)|(refine Det.useQ (hOp) ?_)|(refine Ag.use (hOp) ?_)|(refine Ad.use (hOp) ?_)|(refine Det.use (hOq) ?_)|(refine Det.useQ (hOq) ?_)|(refine Ag.use (hOq) ?_)|(refine Ad.use (hOq) ?_)|(refine Det.use (hFv) ?_)|(refine Det.useQ (hFv) ?_)|(refine Ag.use (hFv) ?_)|(refine Ad.use (hFv) ?_)|(refine Det.use (Av) ?_)|(refine Det.useQ (Av) ?_)|(refine Det.use (g1) ?_)|(refine Det.useQ (g1) ?_)|(refine Ag.use (g1) ?_)|(refine Ad.use (g1) ?_)|(refine Det.use (g2) ?_)|(refine Det.useQ (g2) ?_)|(refine Ag.use (g2) ?_)|(refine Ad.use (g2) ?_)|(refine Det.use (g3) ?_)|(refine Det.useQ (g3) ?_)|(refine Ag.use (g3) ?_)|(refine Ad.use (g3) ?_)|(refine Det.use (s1) ?_)|(refine Det.useQ (s1) ?_)|(refine Ag.use (s1) ?_)|(refine Ad.use (s1) ?_)|(refine Det.use (x1) ?_)|(refine Det.useQ (x1) ?_)|(refine Ag.use (x1) ?_)|(refine Ad.use (x1) ?_)|(refine Det.use (x2) ?_)|(refine Det.useQ (x2) ?_)|(refine Ag.use (x2) ?_)|(refine Ad.use (x2) ?_)|(refine Det.use (x3) ?_)|(refine Det.useQ (x3) ?_)|(refine Ag.use (x3) ?_)|(refine Ad.use (x3) ?_));simp only [go_sem,Nat.reduceLT,Nat.reduceLeDiff,Nat.reduceEqDiff,Nat.reduceAdd,Nat.reduceMul,Int.reduceToNat,Int.reduceLE,↓reduceIte,reduceCtorEq,c0,s0,t0,a0,n0,m0,f0,f1,h0,w0,Aq])|(refine And.intro (Bp _) ?_)|(exact True.intro)|(exfalso;omega)))
           | false =>
            have p0:=hzp
            have m0:=Ua hpE hqE hzp
            have y1:=Mn (p:=p) (by omega) op.2 (fun x hx=>hnall x (List.mem_append_left _ hx))
            have y2:=Mn (p:=q) (by omega) oq.2 (fun x hx=>hnall x (List.mem_append_right _ hx))
            (refine Al.of_code (X:=cx) false [] (by simp) Tryz.func8 (by kernel_rfl) rfl (by simp only [List.length_cons,List.length_nil,Tryz.ntmps8];decide) (by simp) ?_;refine Ae hm _ _ _ ?_;simp only [Tryz.ntmps8,Tryz.results8,go_sem,Nat.reduceLT,Nat.reduceLeDiff,Nat.reduceEqDiff,Nat.reduceAdd,Nat.reduceSub,Nat.reduceMul,Nat.reduceBEq,Int.reduceToNat,Int.reduceLT,Int.reduceLE,Int.reduceEq,Int.reduceAdd,Int.reduceSub,Int.reduceNeg,↓reduceIte,reduceCtorEq,p0,c0,s0,t0,a0,n0,m0,f0,f1,h0,w0,e0,e1,Aq,if_true,if_false])
            (repeat' (first | (refine iteI (fun h=>?_) (fun h=>?_))|(refine Ak (by first | omega | (simp (disch:=omega) only [Aa,Ab,Ac] at *;omega)) ?_;intro b hb)|(refine And.intro (by first | omega | (simp (disch:=omega) only [Aa,Ab,Ac] at *;omega)) ?_)|((first | (refine Ah hm (by rfl) (by kernel_rfl) ?_)|(refine Det.use (hFp) ?_)|(refine Det.useQ (hFp) ?_)|(refine Ag.use (hFp) ?_)|(refine Ad.use (hFp) ?_)|(refine Det.use (hFq) ?_)|(refine Det.useQ (hFq) ?_)|(refine Ag.use (hFq) ?_)|(refine Ad.use (hFq) ?_)|(refine Det.use (hOp) ?_)|(refine Det.useQ (hOp) ?_)|(refine Ag.use (hOp) ?_)|(refine Ad.use (hOp) ?_)|(refine Det.use (hOq) ?_)|(refine Det.useQ (hOq) ?_)|(refine Ag.use (hOq) ?_)|(refine Ad.use (hOq) ?_)|(refine Det.use (hFv) ?_)|(refine Det.useQ (hFv) ?_)|(refine Ag.use (hFv) ?_)|(refine Ad.use (hFv) ?_)|(refine Det.use (Av) ?_)|(refine Det.useQ (Av) ?_)|(refine Det.use (g1) ?_)|(refine Det.useQ (g1) ?_)|(refine Ag.use (g1) ?_)|(refine Ad.use (g1) ?_)|(refine Det.use (g2) ?_)|(refine Det.useQ (g2) ?_)|(refine Ag.use (g2) ?_)|(refine Ad.use (g2) ?_)|(refine Det.use (g3) ?_)|(refine Det.useQ (g3) ?_)|(refine Ag.use (g3) ?_)|(refine Ad.use (g3) ?_)|(refine Det.use (s1) ?_)|(refine Det.useQ (s1) ?_)|(refine Ag.use (s1) ?_)|(refine Ad.use (s1) ?_)|(refine Det.use (x1) ?_)|(refine Det.useQ (x1) ?_)|(refine Ag.use (x1) ?_)|(refine Ad.use (x1) ?_)|(refine Det.use (x2) ?_)|(refine Det.useQ (x2) ?_)|(refine Ag.use (x2) ?_)|(refine Ad.use (x2) ?_)|(refine Det.use (x3) ?_)|(refine Det.useQ (x3) ?_)|(refine Ag.use (x3) ?_)|(refine Ad.use (x3) ?_));simp only [go_sem,Nat.reduceLT,Nat.reduceLeDiff,Nat.reduceEqDiff,Nat.reduceAdd,Nat.reduceMul,Int.reduceToNat,Int.reduceLE,↓reduceIte,reduceCtorEq,p0,c0,s0,t0,a0,n0,m0,f0,f1,h0,w0,Aq])|(refine And.intro (Bp _) ?_)|(exact True.intro)|(exfalso;omega)))
            all_goals omega
        | ok z0 =>
         have hzl:=Qm hz
         rw [hz] at g1 g3
         unfold getR at g1 g2 g3
         have s1:=E2 (z0.enc []) (z0.enc []) (by omega) (by omega)
         rw [decide_eq_true rfl] at s1
         have hpE:p=[]∨p≠[]:=Classical.em _
         rcases hpE with hpE | hpE
         ·have f0:((p.length:Int)=0)=True:=eq_true (by rw [hpE];rfl)
          (refine Al.of_code (X:=cx) false [] (by simp) Tryz.func8 (by kernel_rfl) rfl (by simp only [List.length_cons,List.length_nil,Tryz.ntmps8];decide) (by simp) ?_;refine Ae hm _ _ _ ?_;simp only [Tryz.ntmps8,Tryz.results8,go_sem,Nat.reduceLT,Nat.reduceLeDiff,Nat.reduceEqDiff,Nat.reduceAdd,Nat.reduceSub,Nat.reduceMul,Nat.reduceBEq,Int.reduceToNat,Int.reduceLT,Int.reduceLE,Int.reduceEq,Int.reduceAdd,Int.reduceSub,Int.reduceNeg,↓reduceIte,reduceCtorEq,p0,c0,s0,t0,a0,n0,m0,f0,f1,h0,w0,e0,e1,Aq,if_true,if_false])
          (repeat' (first | (refine iteI (fun h=>?_) (fun h=>?_))|(refine Ak (by first | omega | (simp (disch:=omega) only [Aa,Ab,Ac] at *;omega)) ?_;intro b hb)|(refine And.intro (by first | omega | (simp (disch:=omega) only [Aa,Ab,Ac] at *;omega)) ?_)|((first | (refine Ah hm (by rfl) (by kernel_rfl) ?_)|(refine Det.use (hFp) ?_)|(refine Det.useQ (hFp) ?_)|(refine Ag.use (hFp) ?_)|(refine Ad.use (hFp) ?_)|(refine Det.use (hFq) ?_)|(refine Det.useQ (hFq) ?_)|(refine Ag.use (hFq) ?_)|(refine Ad.use (hFq) ?_)|(refine Det.use (hOp) ?_)|(refine Det.useQ (hOp) ?_)|(refine Ag.use (hOp) ?_)|(refine Ad.use (hOp) ?_)|(refine Det.use (hOq) ?_)|(refine Det.useQ (hOq) ?_)|(refine Ag.use (hOq) ?_)|(refine Ad.use (hOq) ?_)|(refine Det.use (hFv) ?_)|(refine Det.useQ (hFv) ?_)|(refine Ag.use (hFv) ?_)|(refine Ad.use (hFv) ?_)|(refine Det.use (Av) ?_)|(refine Det.useQ (Av) ?_)|(refine Det.use (g1) ?_)|(refine Det.useQ (g1) ?_)|(refine Ag.use (g1) ?_)|(refine Ad.use (g1) ?_)|(refine Det.use (g2) ?_)|(refine Det.useQ (g2) ?_)|(refine Ag.use (g2) ?_)|(refine Ad.use (g2) ?_)|(refine Det.use (g3) ?_)|(refine Det.useQ (g3) ?_)|(refine Ag.use (g3) ?_)|(refine Ad.use (g3) ?_)|(refine Det.use (s1) ?_)|(refine Det.useQ (s1) ?_)|(refine Ag.use (s1) ?_)|(refine Ad.use (s1) ?_)|(refine Det.use (x1) ?_)|(refine Det.useQ (x1) ?_)|(refine Ag.use (x1) ?_)|(refine Ad.use (x1) ?_)|(refine Det.use (x2) ?_)|(refine Det.useQ (x2) ?_)|(refine Ag.use (x2) ?_)|(refine Ad.use (x2) ?_)|(refine Det.use (x3) ?_)|(refine Det.useQ (x3) ?_)|(refine Ag.use (x3) ?_)|(refine Ad.use (x3) ?_));simp only [go_sem,Nat.reduceLT,Nat.reduceLeDiff,Nat.reduceEqDiff,Nat.reduceAdd,Nat.reduceMul,Int.reduceToNat,Int.reduceLE,↓reduceIte,reduceCtorEq,c0,s0,t0,a0,n0,f0,w0,Aq])|(refine And.intro (Bp _) ?_)|(exact True.intro)|(exfalso;omega)))
         ·have f0:((p.length:Int)=0)=False:=eq_false (fun h=>hpE (List.eq_nil_of_length_eq_zero (by omega)))
          cases hqE:q with
          | nil =>
           rw [← hqE]
           have f1:((q.length:Int)=0)=True:=eq_true (by rw [hqE];rfl)
           (refine Al.of_code (X:=cx) false [] (by simp) Tryz.func8 (by kernel_rfl) rfl (by simp only [List.length_cons,List.length_nil,Tryz.ntmps8];decide) (by simp) ?_;refine Ae hm _ _ _ ?_;simp only [Tryz.ntmps8,Tryz.results8,go_sem,Nat.reduceLT,Nat.reduceLeDiff,Nat.reduceEqDiff,Nat.reduceAdd,Nat.reduceSub,Nat.reduceMul,Nat.reduceBEq,Int.reduceToNat,Int.reduceLT,Int.reduceLE,Int.reduceEq,Int.reduceAdd,Int.reduceSub,Int.reduceNeg,↓reduceIte,reduceCtorEq,p0,c0,s0,t0,a0,n0,m0,f0,f1,h0,w0,e0,e1,Aq,if_true,if_false])
           (repeat' (first | (refine iteI (fun h=>?_) (fun h=>?_))|(refine Ak (by first | omega | (simp (disch:=omega) only [Aa,Ab,Ac] at *;omega)) ?_;intro b hb)|(refine And.intro (by first | omega | (simp (disch:=omega) only [Aa,Ab,Ac] at *;omega)) ?_)|((first | (refine Ah hm (by rfl) (by kernel_rfl) ?_)|(refine Det.use (hFp) ?_)|(refine Det.useQ (hFp) ?_)|(refine Ag.use (hFp) ?_)|(refine Ad.use (hFp) ?_)|(refine Det.use (hFq) ?_)|(refine Det.useQ (hFq) ?_)|(refine Ag.use (hFq) ?_)|(refine Ad.use (hFq) ?_)|(refine Det.use (hOp) ?_)|(refine Det.useQ (hOp) ?_)|(refine Ag.use (hOp) ?_)|(refine Ad.use (hOp) ?_)|(refine Det.use (hOq) ?_)|(refine Det.useQ (hOq) ?_)|(refine Ag.use (hOq) ?_)|(refine Ad.use (hOq) ?_)|(refine Det.use (hFv) ?_)|(refine Det.useQ (hFv) ?_)|(refine Ag.use (hFv) ?_)|(refine Ad.use (hFv) ?_)|(refine Det.use (Av) ?_)|(refine Det.useQ (Av) ?_)|(refine Det.use (g1) ?_)|(refine Det.useQ (g1) ?_)|(refine Ag.use (g1) ?_)|(refine Ad.use (g1) ?_)|(refine Det.use (g2) ?_)|(refine Det.useQ (g2) ?_)|(refine Ag.use (g2) ?_)|(refine Ad.use (g2) ?_)|(refine Det.use (g3) ?_)|(refine Det.useQ (g3) ?_)|(refine Ag.use (g3) ?_)|(refine Ad.use (g3) ?_)|(refine Det.use (s1) ?_)|(refine Det.useQ (s1) ?_)|(refine Ag.use (s1) ?_)|(refine Ad.use (s1) ?_)|(refine Det.use (x1) ?_)|(refine Det.useQ (x1) ?_)|(refine Ag.use (x1) ?_)|(refine Ad.use (x1) ?_)|(refine Det.use (x2) ?_)|(refine Det.useQ (x2) ?_)|(refine Ag.use (x2) ?_)|(refine Ad.use (x2) ?_)|(refine Det.use (x3) ?_)|(refine Det.useQ (x3) ?_)|(refine Ag.use (x3) ?_)|(refine Ad.use (x3) ?_));simp only [go_sem,Nat.reduceLT,Nat.reduceLeDiff,Nat.reduceEqDiff,Nat.reduceAdd,Nat.reduceMul,Int.reduceToNat,Int.reduceLE,↓reduceIte,reduceCtorEq,c0,s0,t0,a0,n0,f0,f1,w0,Aq])|(refine And.intro (Bp _) ?_)|(exact True.intro)|(exfalso;omega)))
          | cons z q' =>
           rw [← hqE]
           have f1:((q.length:Int)=0)=False:=eq_false (by rw [hqE];simp;omega)
           have h0:(Bb q)[0]? = some [.bool z.part,.str z.name,.int .i64 z.n]:=by rw [hqE];rfl
           have f2:((0:Int)<(q.length:Int))=True:=eq_true (by rw [hqE];simp)
           have e1:=f2
           cases hzp:z.part with
           | true =>
            have m0:=hzp
            (refine Al.of_code (X:=cx) false [] (by simp) Tryz.func8 (by kernel_rfl) rfl (by simp only [List.length_cons,List.length_nil,Tryz.ntmps8];decide) (by simp) ?_;refine Ae hm _ _ _ ?_;simp only [Tryz.ntmps8,Tryz.results8,go_sem,Nat.reduceLT,Nat.reduceLeDiff,Nat.reduceEqDiff,Nat.reduceAdd,Nat.reduceSub,Nat.reduceMul,Nat.reduceBEq,Int.reduceToNat,Int.reduceLT,Int.reduceLE,Int.reduceEq,Int.reduceAdd,Int.reduceSub,Int.reduceNeg,↓reduceIte,reduceCtorEq,p0,c0,s0,t0,a0,n0,m0,f0,f1,h0,w0,e0,e1,Aq,if_true,if_false])
            (repeat' (first | (refine iteI (fun h=>?_) (fun h=>?_))|(refine Ak (by first | omega | (simp (disch:=omega) only [Aa,Ab,Ac] at *;omega)) ?_;intro b hb)|(refine And.intro (by first | omega | (simp (disch:=omega) only [Aa,Ab,Ac] at *;omega)) ?_)|((first | (refine Ah hm (by rfl) (by kernel_rfl) ?_)|(refine Det.use (hFp) ?_)|(refine Det.useQ (hFp) ?_)|(refine Ag.use (hFp) ?_)|(refine Ad.use (hFp) ?_)|(refine Det.use (hFq) ?_)|(refine Det.useQ (hFq) ?_)|(refine Ag.use (hFq) ?_)|(refine Ad.use (hFq) ?_)|(refine Det.use (hOp) ?_)|(refine Det.useQ (hOp) ?_)|(refine Ag.use (hOp) ?_)|(refine Ad.use (hOp) ?_)|(refine Det.use (hOq) ?_)|(refine Det.useQ (hOq) ?_)|(refine Ag.use (hOq) ?_)|(refine Ad.use (hOq) ?_)|(refine Det.use (hFv) ?_)|(refine Det.useQ (hFv) ?_)|(refine Ag.use (hFv) ?_)|(refine Ad.use (hFv) ?_)|(refine Det.use (Av) ?_)|(refine Det.useQ (Av) ?_)|(refine Det.use (g1) ?_)|(refine Det.useQ (g1) ?_)|(refine Ag.use (g1) ?_)|(refine Ad.use (g1) ?_)|(refine Det.use (g2) ?_)|(refine Det.useQ (g2) ?_)|(refine Ag.use (g2) ?_)|(refine Ad.use (g2) ?_)|(refine Det.use (g3) ?_)|(refine Det.useQ (g3) ?_)|(refine Ag.use (g3) ?_)|(refine Ad.use (g3) ?_)|(refine Det.use (s1) ?_)|(refine Det.useQ (s1) ?_)|(refine Ag.use (s1) ?_)|(refine Ad.use (s1) ?_)|(refine Det.use (x1) ?_)|(refine Det.useQ (x1) ?_)|(refine Ag.use (x1) ?_)|(refine Ad.use (x1) ?_)|(refine Det.use (x2) ?_)|(refine Det.useQ (x2) ?_)|(refine Ag.use (x2) ?_)|(refine Ad.use (x2) ?_)|(refine Det.use (x3) ?_)|(refine Det.useQ (x3) ?_)|(refine Ag.use (x3) ?_)|(refine Ad.use (x3) ?_));simp only [go_sem,Nat.reduceLT,Nat.reduceLeDiff,Nat.reduceEqDiff,Nat.reduceAdd,Nat.reduceMul,Int.reduceToNat,Int.reduceLE,↓reduceIte,reduceCtorEq,c0,s0,t0,a0,n0,m0,f0,f1,h0,w0,Aq])|(refine And.intro (Bp _) ?_)|(exact True.intro)|(exfalso;omega)))
           | false =>
            have p0:=hzp
            have m0:=Ua hpE hqE hzp
            have y1:=Mn (p:=p) (by omega) op.2 (fun x hx=>hnall x (List.mem_append_left _ hx))
            have y2:=Mn (p:=q) (by omega) oq.2 (fun x hx=>hnall x (List.mem_append_right _ hx))
            (refine Al.of_code (X:=cx) false [] (by simp) Tryz.func8 (by kernel_rfl) rfl (by simp only [List.length_cons,List.length_nil,Tryz.ntmps8];decide) (by simp) ?_;refine Ae hm _ _ _ ?_;simp only [Tryz.ntmps8,Tryz.results8,go_sem,Nat.reduceLT,Nat.reduceLeDiff,Nat.reduceEqDiff,Nat.reduceAdd,Nat.reduceSub,Nat.reduceMul,Nat.reduceBEq,Int.reduceToNat,Int.reduceLT,Int.reduceLE,Int.reduceEq,Int.reduceAdd,Int.reduceSub,Int.reduceNeg,↓reduceIte,reduceCtorEq,p0,c0,s0,t0,a0,n0,m0,f0,f1,h0,w0,e0,e1,Aq,if_true,if_false])
            (repeat' (first | (refine iteI (fun h=>?_) (fun h=>?_))|(refine Ak (by first | omega | (simp (disch:=omega) only [Aa,Ab,Ac] at *;omega)) ?_;intro b hb)|(refine And.intro (by first | omega | (simp (disch:=omega) only [Aa,Ab,Ac] at *;omega)) ?_)|((first | (refine Ah hm (by rfl) (by kernel_rfl) ?_)|(refine Det.use (hFp) ?_)|(refine Det.useQ (hFp) ?_)|(refine Ag.use (hFp) ?_)|(refine Ad.use (hFp) ?_)|(refine Det.use (hFq) ?_)|(refine Det.useQ (hFq) ?_)|(refine Ag.use (hFq) ?_)|(refine Ad.use (hFq) ?_)|(refine Det.use (hOp) ?_)|(refine Det.useQ (hOp) ?_)|(refine Ag.use (hOp) ?_)|(refine Ad.use (hOp) ?_)|(refine Det.use (hOq) ?_)|(refine Det.useQ (hOq) ?_)|(refine Ag.use (hOq) ?_)|(refine Ad.use (hOq) ?_)|(refine Det.use (hFv) ?_)|(refine Det.useQ (hFv) ?_)|(refine Ag.use (hFv) ?_)|(refine Ad.use (hFv) ?_)|(refine Det.use (Av) ?_)|(refine Det.useQ (Av) ?_)|(refine Det.use (g1) ?_)|(refine Det.useQ (g1) ?_)|(refine Ag.use (g1) ?_)|(refine Ad.use (g1) ?_)|(refine Det.use (g2) ?_)|(refine Det.useQ (g2) ?_)|(refine Ag.use (g2) ?_)|(refine Ad.use (g2) ?_)|(refine Det.use (g3) ?_)|(refine Det.useQ (g3) ?_)|(refine Ag.use (g3) ?_)|(refine Ad.use (g3) ?_)|(refine Det.use (s1) ?_)|(refine Det.useQ (s1) ?_)|(refine Ag.use (s1) ?_)|(refine Ad.use (s1) ?_)|(refine Det.use (x1) ?_)|(refine Det.useQ (x1) ?_)|(refine Ag.use (x1) ?_)|(refine Ad.use (x1) ?_)|(refine Det.use (x2) ?_)|(refine Det.useQ (x2) ?_)|(refine Ag.use (x2) ?_)|(refine Ad.use (x2) ?_)|(refine Det.use (x3) ?_)|(refine Det.useQ (x3) ?_)|(refine Ag.use (x3) ?_)|(refine Ad.use (x3) ?_));simp only [go_sem,Nat.reduceLT,Nat.reduceLeDiff,Nat.reduceEqDiff,Nat.reduceAdd,Nat.reduceMul,Int.reduceToNat,Int.reduceLE,↓reduceIte,reduceCtorEq,p0,c0,s0,t0,a0,n0,m0,f0,f1,h0,w0,Aq])|(refine And.intro (Bp _) ?_)|(exact True.intro)|(exfalso;omega)))
            all_goals omega
    ·rw [decide_eq_false oq] at hOq
     (refine Al.of_code (X:=cx) false [] (by simp) Tryz.func8 (by kernel_rfl) rfl (by simp only [List.length_cons,List.length_nil,Tryz.ntmps8];decide) (by simp) ?_;refine Ae hm _ _ _ ?_;simp only [Tryz.ntmps8,Tryz.results8,go_sem,Nat.reduceLT,Nat.reduceLeDiff,Nat.reduceEqDiff,Nat.reduceAdd,Nat.reduceSub,Nat.reduceMul,Nat.reduceBEq,Int.reduceToNat,Int.reduceLT,Int.reduceLE,Int.reduceEq,Int.reduceAdd,Int.reduceSub,Int.reduceNeg,↓reduceIte,reduceCtorEq,p0,c0,s0,t0,a0,n0,m0,f0,f1,h0,w0,e0,e1,Aq,if_true,if_false])
     (repeat' (first | (refine iteI (fun h=>?_) (fun h=>?_))|(refine Ak (by first | omega | (simp (disch:=omega) only [Aa,Ab,Ac] at *;omega)) ?_;intro b hb)|(refine And.intro (by first | omega | (simp (disch:=omega) only [Aa,Ab,Ac] at *;omega)) ?_)|((first | (refine Ah hm (by rfl) (by kernel_rfl) ?_)|(refine Det.use (hFp) ?_)|(refine Det.useQ (hFp) ?_)|(refine Ag.use (hFp) ?_)|(refine Ad.use (hFp) ?_)|(refine Det.use (hFq) ?_)|(refine Det.useQ (hFq) ?_)|(refine Ag.use (hFq) ?_)|(refine Ad.use (hFq) ?_)|(refine Det.use (hOp) ?_)|(refine Det.useQ (hOp) ?_)|(refine Ag.use (hOp) ?_)|(refine Ad.use (hOp) ?_)|(refine Det.use (hOq) ?_)|(refine Det.useQ (hOq) ?_)|(refine Ag.use (hOq) ?_)|(refine Ad.use (hOq) ?_)|(refine Det.use (Av) ?_)|(refine Det.useQ (Av) ?_));simp only [go_sem,Nat.reduceLT,Nat.reduceEqDiff,Nat.reduceMul,Int.reduceToNat,Int.reduceLE,↓reduceIte])|(exact True.intro)|(exfalso;omega)))
   ·rw [decide_eq_false op] at hOp
    (refine Al.of_code (X:=cx) false [] (by simp) Tryz.func8 (by kernel_rfl) rfl (by simp only [List.length_cons,List.length_nil,Tryz.ntmps8];decide) (by simp) ?_;refine Ae hm _ _ _ ?_;simp only [Tryz.ntmps8,Tryz.results8,go_sem,Nat.reduceLT,Nat.reduceLeDiff,Nat.reduceEqDiff,Nat.reduceAdd,Nat.reduceSub,Nat.reduceMul,Nat.reduceBEq,Int.reduceToNat,Int.reduceLT,Int.reduceLE,Int.reduceEq,Int.reduceAdd,Int.reduceSub,Int.reduceNeg,↓reduceIte,reduceCtorEq,p0,c0,s0,t0,a0,n0,m0,f0,f1,h0,w0,e0,e1,Aq,if_true,if_false])
    (repeat' (first | (refine iteI (fun h=>?_) (fun h=>?_))|(refine Ak (by first | omega | (simp (disch:=omega) only [Aa,Ab,Ac] at *;omega)) ?_;intro b hb)|(refine And.intro (by first | omega | (simp (disch:=omega) only [Aa,Ab,Ac] at *;omega)) ?_)|((first | (refine Ah hm (by rfl) (by kernel_rfl) ?_)|(refine Det.use (hFp) ?_)|(refine Det.useQ (hFp) ?_)|(refine Ag.use (hFp) ?_)|(refine Ad.use (hFp) ?_)|(refine Det.use (hFq) ?_)|(refine Det.useQ (hFq) ?_)|(refine Ag.use (hFq) ?_)|(refine Ad.use (hFq) ?_)|(refine Det.use (hOp) ?_)|(refine Det.useQ (hOp) ?_)|(refine Ag.use (hOp) ?_)|(refine Ad.use (hOp) ?_)|(refine Det.use (Av) ?_)|(refine Det.useQ (Av) ?_));simp only [go_sem,Nat.reduceLT,Nat.reduceEqDiff,Nat.reduceMul,Int.reduceToNat,Int.reduceLE,↓reduceIte])|(exact True.intro)|(exfalso;omega)))
  ·rw [decide_eq_false fq] at hFq
   (refine Al.of_code (X:=cx) false [] (by simp) Tryz.func8 (by kernel_rfl) rfl (by simp only [List.length_cons,List.length_nil,Tryz.ntmps8];decide) (by simp) ?_;refine Ae hm _ _ _ ?_;simp only [Tryz.ntmps8,Tryz.results8,go_sem,Nat.reduceLT,Nat.reduceLeDiff,Nat.reduceEqDiff,Nat.reduceAdd,Nat.reduceSub,Nat.reduceMul,Nat.reduceBEq,Int.reduceToNat,Int.reduceLT,Int.reduceLE,Int.reduceEq,Int.reduceAdd,Int.reduceSub,Int.reduceNeg,↓reduceIte,reduceCtorEq,p0,c0,s0,t0,a0,n0,m0,f0,f1,h0,w0,e0,e1,Aq,if_true,if_false])
   (repeat' (first | (refine iteI (fun h=>?_) (fun h=>?_))|(refine Ak (by first | omega | (simp (disch:=omega) only [Aa,Ab,Ac] at *;omega)) ?_;intro b hb)|(refine And.intro (by first | omega | (simp (disch:=omega) only [Aa,Ab,Ac] at *;omega)) ?_)|((first | (refine Ah hm (by rfl) (by kernel_rfl) ?_)|(refine Det.use (hFp) ?_)|(refine Det.useQ (hFp) ?_)|(refine Ag.use (hFp) ?_)|(refine Ad.use (hFp) ?_)|(refine Det.use (hFq) ?_)|(refine Det.useQ (hFq) ?_)|(refine Ag.use (hFq) ?_)|(refine Ad.use (hFq) ?_)|(refine Det.use (Av) ?_)|(refine Det.useQ (Av) ?_));simp only [go_sem,Nat.reduceLT,Nat.reduceEqDiff,Nat.reduceMul,Int.reduceToNat,Int.reduceLE,↓reduceIte])|(exact True.intro)|(exfalso;omega)))
 ·rw [decide_eq_false fp] at hFp
  (refine Al.of_code (X:=cx) false [] (by simp) Tryz.func8 (by kernel_rfl) rfl (by simp only [List.length_cons,List.length_nil,Tryz.ntmps8];decide) (by simp) ?_;refine Ae hm _ _ _ ?_;simp only [Tryz.ntmps8,Tryz.results8,go_sem,Nat.reduceLT,Nat.reduceLeDiff,Nat.reduceEqDiff,Nat.reduceAdd,Nat.reduceSub,Nat.reduceMul,Nat.reduceBEq,Int.reduceToNat,Int.reduceLT,Int.reduceLE,Int.reduceEq,Int.reduceAdd,Int.reduceSub,Int.reduceNeg,↓reduceIte,reduceCtorEq,p0,c0,s0,t0,a0,n0,m0,f0,f1,h0,w0,e0,e1,Aq,if_true,if_false])
  (repeat' (first | (refine iteI (fun h=>?_) (fun h=>?_))|(refine Ak (by first | omega | (simp (disch:=omega) only [Aa,Ab,Ac] at *;omega)) ?_;intro b hb)|(refine And.intro (by first | omega | (simp (disch:=omega) only [Aa,Ab,Ac] at *;omega)) ?_)|((first | (refine Ah hm (by rfl) (by kernel_rfl) ?_)|(refine Det.use (hFp) ?_)|(refine Det.useQ (hFp) ?_)|(refine Ag.use (hFp) ?_)|(refine Ad.use (hFp) ?_)|(refine Det.use (Av) ?_)|(refine Det.useQ (Av) ?_));simp only [go_sem,Nat.reduceLT,Nat.reduceEqDiff,Nat.reduceMul,Int.reduceToNat,Int.reduceLE,↓reduceIte])|(exact True.intro)|(exfalso;omega)))
end Go.LX
