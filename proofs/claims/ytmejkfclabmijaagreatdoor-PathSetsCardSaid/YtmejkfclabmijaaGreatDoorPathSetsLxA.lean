/- The laws on paths: PathSets. -/
import Derived.Test.YtmejkfclabmijaaGreatDoorLxZ
set_option linter.unusedSimpArgs false
set_option linter.unusedVariables false
set_option linter.unusedSectionVars false
set_option linter.unnecessarySimpa false
set_option maxRecDepth 100000
set_option maxHeartbeats 2000000
namespace Go.LX
open Go Go.RowKit Go.Proofs
attribute [local irreducible] Al SWP Bi
theorem Ye {n:Node}:∀ {l:List KT},n∈(A1 l).enc→∃ p∈l,n∈p.2.enc p.1
 | [],h=>by simp [A1,Bl] at h
 | p :: l,h=>by
  rw [A1,A0,List.mem_append] at h
  rcases h with h | h
  ·exact ⟨p,List.mem_cons_self,h⟩
  ·obtain ⟨q,h1,h2⟩:=Ye h
   exact ⟨q,List.mem_cons_of_mem _ h1,h2⟩
theorem Jli {k:Int} {l:List KT} (h:∀ p∈l,p.1.length≤1000000∧FitT p.2):FitT (nd k l):=by
 intro n hn
 unfold nd at hn
 rw [A6] at hn
 rcases List.mem_cons.1 hn with rfl | hn
 ·exact ⟨by simp,by simp,by simp only;omega,by simp only;omega⟩
 ·obtain ⟨p,h1,h2⟩:=Ye hn
  exact Y3 (h p h1).2 (h p h1).1 n h2
theorem Jnz {t w y:Tree} {x:Step} (hf:FitT t) (hw:Way t x w) (hy:FitT y):FitT (putT t x y):=by
 cases hw with
 | list l h hp hn hi =>
  subst h
  rw [Cr hp hn]
  refine Jli fun p hp'=>?_
  rcases List.mem_or_eq_of_mem_set hp' with hp' | rfl
  ·have:=Mg (k:=5) (s:=[]) (g:=false) (e:=0) (kids:=A1 l) hf (p:=p) (by rw [Ea];exact hp')
   exact this
  ·exact ⟨by simp,hy⟩
 | obj l h hp hr hi =>
  subst h
  rw [C7 hp hr hi]
  refine Jli fun p hp'=>?_
  obtain ⟨q,hq,rfl⟩:=List.mem_map.1 hp'
  have:=Mg (k:=6) (s:=[]) (g:=false) (e:=0) (kids:=A1 l) hf (p:=q) (by rw [Ea];exact hq)
  split
  ·rename_i he
   exact ⟨by simp only;rw [← he];exact this.1,hy⟩
  ·exact this
theorem Jdv:∀ {p:List Step} {t u y:Tree},okT t→okT u→FitT t→FitT u→setT p t u=.ok y→FitT y
 | [],t,u,y,_,_,_,hu,h=>by cases h;exact hu
 | x :: p,t,u,y,ht,hu,ft,fu,h=>by
  rw [setT] at h
  cases hi:inT t x with
  | error e=>rw [hi] at h;cases h
  | ok w =>
   rw [hi] at h
   simp only at h
   have hw:=Jv ht hi
   cases hz:setT p w u with
   | error e=>rw [hz] at h;cases h
   | ok z =>
    rw [hz] at h
    simp only at h
    cases h
    exact Jnz ft hw (Jdv (Ig ht hw) hu (Ji9 ft hi) fu hz)
theorem Jce (p q:List Step) (v u:List Node) (hp:PathFit p) (hq:PathFit q) (hv:ValFit v) (hu:ValFit u):Det cx 6 [.p (.agg [.sl (Bb p),.sl (Bb q)]),.p (.sl (valL v)),.p (.sl (valL u))] [] (.p (.bool true)) []:=by
 have hFp:=Pe p hp.len hp.name
 by_cases fp:fewP p
 ·rw [decide_eq_true fp] at hFp
  have hFq:=Pe q hq.len hq.name
  by_cases fq:fewP q
  ·rw [decide_eq_true fq] at hFq
   have hOp:=D4 p (by have:=fp.1;omega) (fun x hx=>by have:=fp.2 x hx;omega)
   by_cases op:E9 p
   ·rw [decide_eq_true op] at hOp
    have hOq:=D4 q (by have:=fq.1;omega) (fun x hx=>by have:=fq.2 x hx;omega)
    by_cases oq:E9 q
    ·rw [decide_eq_true oq] at hOq
     have hFv:=Ln v 60 (by decide) (by have:=hv.len;omega) hv.node
     cases bv:fewB v 60 with
     | false =>
      rw [bv] at hFv
      (refine Al.of_code (X:=cx) false [] (by simp) Tryz.func6 (by kernel_rfl) rfl (by simp only [List.length_cons,List.length_nil,Tryz.ntmps6];decide) (by simp) ?_;refine Ae hm _ _ _ ?_;simp only [Tryz.ntmps6,Tryz.results6,go_sem,Nat.reduceLT,Nat.reduceLeDiff,Nat.reduceEqDiff,Nat.reduceAdd,Nat.reduceSub,Nat.reduceMul,Nat.reduceBEq,Int.reduceToNat,Int.reduceLT,Int.reduceLE,Int.reduceEq,Int.reduceAdd,Int.reduceSub,Int.reduceNeg,↓reduceIte,reduceCtorEq])
      (repeat' (first | (refine iteI (fun h=>?_) (fun h=>?_))|(refine Ak (by first | omega | (simp (disch:=omega) only [Aa,Ab,Ac] at *;omega)) ?_;intro b hb)|(refine And.intro (by first | omega | (simp (disch:=omega) only [Aa,Ab,Ac] at *;omega)) ?_)|((first | (refine Ah hm (by rfl) (by kernel_rfl) ?_)|(refine Det.use (hFp) ?_)|(refine Det.useQ (hFp) ?_)|(refine Ag.use (hFp) ?_)|(refine Ad.use (hFp) ?_)|(refine Det.use (hFq) ?_)|(refine Det.useQ (hFq) ?_)|(refine Ag.use (hFq) ?_)|(refine Ad.use (hFq) ?_)|(refine Det.use (hOp) ?_)|(refine Det.useQ (hOp) ?_)|(refine Ag.use (hOp) ?_)|(refine Ad.use (hOp) ?_)|(refine Det.use (hOq) ?_)|(refine Det.useQ (hOq) ?_)|(refine Ag.use (hOq) ?_)|(refine Ad.use (hOq) ?_)|(refine Det.use (hFv) ?_)|(refine Det.useQ (hFv) ?_)|(refine Ag.use (hFv) ?_)|(refine Ad.use (hFv) ?_)|(refine Det.use (Av) ?_)|(refine Det.useQ (Av) ?_));simp only [go_sem,Nat.reduceLT,Nat.reduceEqDiff,Nat.reduceMul,Int.reduceToNat,Int.reduceLE,↓reduceIte,reduceCtorEq])|(exact True.intro)|(exfalso;omega)))
     | true =>
      rw [bv] at hFv
      have hFu:=Ln u 60 (by decide) (by have:=hu.len;omega) hu.node
      cases bu:fewB u 60 with
      | false =>
       rw [bu] at hFu
       (refine Al.of_code (X:=cx) false [] (by simp) Tryz.func6 (by kernel_rfl) rfl (by simp only [List.length_cons,List.length_nil,Tryz.ntmps6];decide) (by simp) ?_;refine Ae hm _ _ _ ?_;simp only [Tryz.ntmps6,Tryz.results6,go_sem,Nat.reduceLT,Nat.reduceLeDiff,Nat.reduceEqDiff,Nat.reduceAdd,Nat.reduceSub,Nat.reduceMul,Nat.reduceBEq,Int.reduceToNat,Int.reduceLT,Int.reduceLE,Int.reduceEq,Int.reduceAdd,Int.reduceSub,Int.reduceNeg,↓reduceIte,reduceCtorEq])
       (repeat' (first | (refine iteI (fun h=>?_) (fun h=>?_))|(refine Ak (by first | omega | (simp (disch:=omega) only [Aa,Ab,Ac] at *;omega)) ?_;intro b hb)|(refine And.intro (by first | omega | (simp (disch:=omega) only [Aa,Ab,Ac] at *;omega)) ?_)|((first | (refine Ah hm (by rfl) (by kernel_rfl) ?_)|(refine Det.use (hFp) ?_)|(refine Det.useQ (hFp) ?_)|(refine Ag.use (hFp) ?_)|(refine Ad.use (hFp) ?_)|(refine Det.use (hFq) ?_)|(refine Det.useQ (hFq) ?_)|(refine Ag.use (hFq) ?_)|(refine Ad.use (hFq) ?_)|(refine Det.use (hOp) ?_)|(refine Det.useQ (hOp) ?_)|(refine Ag.use (hOp) ?_)|(refine Ad.use (hOp) ?_)|(refine Det.use (hOq) ?_)|(refine Det.useQ (hOq) ?_)|(refine Ag.use (hOq) ?_)|(refine Ad.use (hOq) ?_)|(refine Det.use (hFv) ?_)|(refine Det.useQ (hFv) ?_)|(refine Ag.use (hFv) ?_)|(refine Ad.use (hFv) ?_)|(refine Det.use (hFu) ?_)|(refine Det.useQ (hFu) ?_)|(refine Ag.use (hFu) ?_)|(refine Ad.use (hFu) ?_)|(refine Det.use (Av) ?_)|(refine Det.useQ (Av) ?_));simp only [go_sem,Nat.reduceLT,Nat.reduceEqDiff,Nat.reduceMul,Int.reduceToNat,Int.reduceLE,↓reduceIte,reduceCtorEq])|(exact True.intro)|(exfalso;omega)))
      | true =>
       rw [bu] at hFu
       obtain ⟨t,ht,rfl,htl,htf⟩:=Fw hv bv
       obtain ⟨y,hy,rfl,hyl,hyf⟩:=Fw hu bu
       have npl:p.length≤31:=fp.1
       have nql:q.length≤31:=fq.1
       have npn:∀ x∈p,x.name.length≤1000000:=fun x hx=>by have:=fp.2 x hx;omega
       have nqn:∀ x∈q,x.name.length≤1000000:=fun x hx=>by have:=fq.2 x hx;omega
       have gA:=I7 p q (by omega) (by omega) npn nqn
       rw [Fc] at gA
       have g1:=M1 p t (by omega) op.2 (by omega)
       have g3:=L8 p t y (by omega) op.2 ht hy (by omega)
       cases hg:getT p t with
       | error e =>
        have hs:=(Km (p:=p) (t:=t) (u:=y)).2 hg
        have he:=Jec hg
        rw [hg] at g1
        rw [hs] at g3
        unfold getR at g1 g3
        rcases he with rfl | rfl
        ·(refine Al.of_code (X:=cx) false [] (by simp) Tryz.func6 (by kernel_rfl) rfl (by simp only [List.length_cons,List.length_nil,Tryz.ntmps6];decide) (by simp) ?_;refine Ae hm _ _ _ ?_;simp only [Tryz.ntmps6,Tryz.results6,go_sem,Nat.reduceLT,Nat.reduceLeDiff,Nat.reduceEqDiff,Nat.reduceAdd,Nat.reduceSub,Nat.reduceMul,Nat.reduceBEq,Int.reduceToNat,Int.reduceLT,Int.reduceLE,Int.reduceEq,Int.reduceAdd,Int.reduceSub,Int.reduceNeg,↓reduceIte,reduceCtorEq])
         (repeat' (first | (refine iteI (fun h=>?_) (fun h=>?_))|(refine Ak (by first | omega | (simp (disch:=omega) only [Aa,Ab,Ac] at *;omega)) ?_;intro b hb)|(refine And.intro (by first | omega | (simp (disch:=omega) only [Aa,Ab,Ac] at *;omega)) ?_)|((first | (refine Ah hm (by rfl) (by kernel_rfl) ?_)|(refine Det.use (hFp) ?_)|(refine Det.useQ (hFp) ?_)|(refine Ag.use (hFp) ?_)|(refine Ad.use (hFp) ?_)|(refine Det.use (hFq) ?_)|(refine Det.useQ (hFq) ?_)|(refine Ag.use (hFq) ?_)|(refine Ad.use (hFq) ?_)|(refine Det.use (hOp) ?_)|(refine Det.useQ (hOp) ?_)|(refine Ag.use (hOp) ?_)|(refine Ad.use (hOp) ?_)|(refine Det.use (hOq) ?_)|(refine Det.useQ (hOq) ?_)|(refine Ag.use (hOq) ?_)|(refine Ad.use (hOq) ?_)|(refine Det.use (hFv) ?_)|(refine Det.useQ (hFv) ?_)|(refine Ag.use (hFv) ?_)|(refine Ad.use (hFv) ?_)|(refine Det.use (hFu) ?_)|(refine Det.useQ (hFu) ?_)|(refine Ag.use (hFu) ?_)|(refine Ad.use (hFu) ?_)|(refine Det.use (Av) ?_)|(refine Det.useQ (Av) ?_)|(refine Det.use (g1) ?_)|(refine Det.useQ (g1) ?_)|(refine Ag.use (g1) ?_)|(refine Ad.use (g1) ?_)|(refine Det.use (g3) ?_)|(refine Det.useQ (g3) ?_)|(refine Ag.use (g3) ?_)|(refine Ad.use (g3) ?_));simp only [go_sem,Nat.reduceLT,Nat.reduceEqDiff,Nat.reduceMul,Int.reduceToNat,Int.reduceLE,Int.reduceAdd,↓reduceIte,reduceCtorEq])|(exact True.intro)|(exfalso;omega)))
         all_goals decide
        ·(refine Al.of_code (X:=cx) false [] (by simp) Tryz.func6 (by kernel_rfl) rfl (by simp only [List.length_cons,List.length_nil,Tryz.ntmps6];decide) (by simp) ?_;refine Ae hm _ _ _ ?_;simp only [Tryz.ntmps6,Tryz.results6,go_sem,Nat.reduceLT,Nat.reduceLeDiff,Nat.reduceEqDiff,Nat.reduceAdd,Nat.reduceSub,Nat.reduceMul,Nat.reduceBEq,Int.reduceToNat,Int.reduceLT,Int.reduceLE,Int.reduceEq,Int.reduceAdd,Int.reduceSub,Int.reduceNeg,↓reduceIte,reduceCtorEq])
         (repeat' (first | (refine iteI (fun h=>?_) (fun h=>?_))|(refine Ak (by first | omega | (simp (disch:=omega) only [Aa,Ab,Ac] at *;omega)) ?_;intro b hb)|(refine And.intro (by first | omega | (simp (disch:=omega) only [Aa,Ab,Ac] at *;omega)) ?_)|((first | (refine Ah hm (by rfl) (by kernel_rfl) ?_)|(refine Det.use (hFp) ?_)|(refine Det.useQ (hFp) ?_)|(refine Ag.use (hFp) ?_)|(refine Ad.use (hFp) ?_)|(refine Det.use (hFq) ?_)|(refine Det.useQ (hFq) ?_)|(refine Ag.use (hFq) ?_)|(refine Ad.use (hFq) ?_)|(refine Det.use (hOp) ?_)|(refine Det.useQ (hOp) ?_)|(refine Ag.use (hOp) ?_)|(refine Ad.use (hOp) ?_)|(refine Det.use (hOq) ?_)|(refine Det.useQ (hOq) ?_)|(refine Ag.use (hOq) ?_)|(refine Ad.use (hOq) ?_)|(refine Det.use (hFv) ?_)|(refine Det.useQ (hFv) ?_)|(refine Ag.use (hFv) ?_)|(refine Ad.use (hFv) ?_)|(refine Det.use (hFu) ?_)|(refine Det.useQ (hFu) ?_)|(refine Ag.use (hFu) ?_)|(refine Ad.use (hFu) ?_)|(refine Det.use (Av) ?_)|(refine Det.useQ (Av) ?_)|(refine Det.use (g1) ?_)|(refine Det.useQ (g1) ?_)|(refine Ag.use (g1) ?_)|(refine Ad.use (g1) ?_)|(refine Det.use (g3) ?_)|(refine Det.useQ (g3) ?_)|(refine Ag.use (g3) ?_)|(refine Ad.use (g3) ?_));simp only [go_sem,Nat.reduceLT,Nat.reduceEqDiff,Nat.reduceMul,Int.reduceToNat,Int.reduceLE,Int.reduceAdd,↓reduceIte,reduceCtorEq])|(exact True.intro)|(exfalso;omega)))
         all_goals decide
       | ok w =>
        obtain ⟨z,hz⟩:=Ry (u:=y) hg
        obtain ⟨w',hw1,hw2,hw3,hzo,hwo,hsz⟩:=Kg ht hy hz
        rw [hg] at hw1
        cases hw1
        have hwl:=Qm hg
        have hzf:=Jdv ht hy htf hyf hz
        have g5:=M1 p z (by omega) op.2 (by omega)
        have g6:=L8 p z w (by omega) op.2 hzo hwo (by omega)
        rw [hg] at g1
        rw [hz] at g3
        rw [hw2] at g5
        rw [hw3] at g6
        unfold getR at g1 g3 g5 g6
        have s1:=E2 (y.enc []) (y.enc []) (by omega) (by omega)
        have s2:=E2 (t.enc []) (t.enc []) (by omega) (by omega)
        have gR:=Jp (z.enc []) (by omega) hzf
        rw [Iq.2 ⟨z,hzo,rfl⟩] at gR
        rw [decide_eq_true rfl] at s1 s2
        have g7:=M1 q t (by omega) oq.2 (by omega)
        have g8:=M1 q z (by omega) oq.2 (by omega)
        cases hap:B7 p q with
        | true =>
         have hq':=Tw ht hy op.2 oq.2 hap hz
         rw [hq'] at g8
         rw [hap] at gA
         cases h7:getT q t with
         | error e =>
          rw [h7] at g7 g8
          unfold getR at g7 g8
          have s3:=Jz
          (refine Al.of_code (X:=cx) false [] (by simp) Tryz.func6 (by kernel_rfl) rfl (by simp only [List.length_cons,List.length_nil,Tryz.ntmps6];decide) (by simp) ?_;refine Ae hm _ _ _ ?_;simp only [Tryz.ntmps6,Tryz.results6,go_sem,Nat.reduceLT,Nat.reduceLeDiff,Nat.reduceEqDiff,Nat.reduceAdd,Nat.reduceSub,Nat.reduceMul,Nat.reduceBEq,Int.reduceToNat,Int.reduceLT,Int.reduceLE,Int.reduceEq,Int.reduceAdd,Int.reduceSub,Int.reduceNeg,↓reduceIte,reduceCtorEq])
          (repeat' (first | (refine iteI (fun h=>?_) (fun h=>?_))|(refine Ak (by first | omega | (simp (disch:=omega) only [Aa,Ab,Ac] at *;omega)) ?_;intro b hb)|(refine And.intro (by first | omega | (simp (disch:=omega) only [Aa,Ab,Ac] at *;omega)) ?_)|((first | (refine Ah hm (by rfl) (by kernel_rfl) ?_)|(refine Det.use (hFp) ?_)|(refine Det.useQ (hFp) ?_)|(refine Ag.use (hFp) ?_)|(refine Ad.use (hFp) ?_)|(refine Det.use (hFq) ?_)|(refine Det.useQ (hFq) ?_)|(refine Ag.use (hFq) ?_)|(refine Ad.use (hFq) ?_)|(refine Det.use (hOp) ?_)|(refine Det.useQ (hOp) ?_)|(refine Ag.use (hOp) ?_)|(refine Ad.use (hOp) ?_)|(refine Det.use (hOq) ?_)|(refine Det.useQ (hOq) ?_)|(refine Ag.use (hOq) ?_)|(refine Ad.use (hOq) ?_)|(refine Det.use (hFv) ?_)|(refine Det.useQ (hFv) ?_)|(refine Ag.use (hFv) ?_)|(refine Ad.use (hFv) ?_)|(refine Det.use (hFu) ?_)|(refine Det.useQ (hFu) ?_)|(refine Ag.use (hFu) ?_)|(refine Ad.use (hFu) ?_)|(refine Det.use (Av) ?_)|(refine Det.useQ (Av) ?_)|(refine Det.use (g1) ?_)|(refine Det.useQ (g1) ?_)|(refine Ag.use (g1) ?_)|(refine Ad.use (g1) ?_)|(refine Det.use (g3) ?_)|(refine Det.useQ (g3) ?_)|(refine Ag.use (g3) ?_)|(refine Ad.use (g3) ?_)|(refine Det.use (g5) ?_)|(refine Det.useQ (g5) ?_)|(refine Ag.use (g5) ?_)|(refine Ad.use (g5) ?_)|(refine Det.use (g6) ?_)|(refine Det.useQ (g6) ?_)|(refine Ag.use (g6) ?_)|(refine Ad.use (g6) ?_)|(refine Det.use (s1) ?_)|(refine Det.useQ (s1) ?_)|(refine Ag.use (s1) ?_)|(refine Ad.use (s1) ?_)|(refine Det.use (s2) ?_)|(refine Det.useQ (s2) ?_)|(refine Ag.use (s2) ?_)|(refine Ad.use (s2) ?_)|(refine Det.use (gR) ?_)|(refine Det.useQ (gR) ?_)|(refine Ag.use (gR) ?_)|(refine Ad.use (gR) ?_)|(refine Det.use (g7) ?_)|(refine Det.useQ (g7) ?_)|(refine Ag.use (g7) ?_)|(refine Ad.use (g7) ?_)|(refine Det.use (g8) ?_)|(refine Det.useQ (g8) ?_)|(refine Ag.use (g8) ?_)|(refine Ad.use (g8) ?_)|(refine Det.use (s3) ?_)|(refine Det.useQ (s3) ?_)|(refine Ag.use (s3) ?_)|(refine Ad.use (s3) ?_)|(refine Det.use (gA) ?_)|(refine Det.useQ (gA) ?_)|(refine Ag.use (gA) ?_)|(refine Ad.use (gA) ?_));simp only [go_sem,Nat.reduceLT,Nat.reduceEqDiff,Nat.reduceMul,Int.reduceToNat,Int.reduceLE,↓reduceIte,reduceCtorEq])|(exact True.intro)|(exfalso;omega)))
         | ok a =>
          have hal:=Qm h7
          rw [h7] at g7 g8
          unfold getR at g7 g8
          have s3:=E2 (a.enc []) (a.enc []) (by omega) (by omega)
          rw [decide_eq_true rfl] at s3
          (refine Al.of_code (X:=cx) false [] (by simp) Tryz.func6 (by kernel_rfl) rfl (by simp only [List.length_cons,List.length_nil,Tryz.ntmps6];decide) (by simp) ?_;refine Ae hm _ _ _ ?_;simp only [Tryz.ntmps6,Tryz.results6,go_sem,Nat.reduceLT,Nat.reduceLeDiff,Nat.reduceEqDiff,Nat.reduceAdd,Nat.reduceSub,Nat.reduceMul,Nat.reduceBEq,Int.reduceToNat,Int.reduceLT,Int.reduceLE,Int.reduceEq,Int.reduceAdd,Int.reduceSub,Int.reduceNeg,↓reduceIte,reduceCtorEq])
          (repeat' (first | (refine iteI (fun h=>?_) (fun h=>?_))|(refine Ak (by first | omega | (simp (disch:=omega) only [Aa,Ab,Ac] at *;omega)) ?_;intro b hb)|(refine And.intro (by first | omega | (simp (disch:=omega) only [Aa,Ab,Ac] at *;omega)) ?_)|((first | (refine Ah hm (by rfl) (by kernel_rfl) ?_)|(refine Det.use (hFp) ?_)|(refine Det.useQ (hFp) ?_)|(refine Ag.use (hFp) ?_)|(refine Ad.use (hFp) ?_)|(refine Det.use (hFq) ?_)|(refine Det.useQ (hFq) ?_)|(refine Ag.use (hFq) ?_)|(refine Ad.use (hFq) ?_)|(refine Det.use (hOp) ?_)|(refine Det.useQ (hOp) ?_)|(refine Ag.use (hOp) ?_)|(refine Ad.use (hOp) ?_)|(refine Det.use (hOq) ?_)|(refine Det.useQ (hOq) ?_)|(refine Ag.use (hOq) ?_)|(refine Ad.use (hOq) ?_)|(refine Det.use (hFv) ?_)|(refine Det.useQ (hFv) ?_)|(refine Ag.use (hFv) ?_)|(refine Ad.use (hFv) ?_)|(refine Det.use (hFu) ?_)|(refine Det.useQ (hFu) ?_)|(refine Ag.use (hFu) ?_)|(refine Ad.use (hFu) ?_)|(refine Det.use (Av) ?_)|(refine Det.useQ (Av) ?_)|(refine Det.use (g1) ?_)|(refine Det.useQ (g1) ?_)|(refine Ag.use (g1) ?_)|(refine Ad.use (g1) ?_)|(refine Det.use (g3) ?_)|(refine Det.useQ (g3) ?_)|(refine Ag.use (g3) ?_)|(refine Ad.use (g3) ?_)|(refine Det.use (g5) ?_)|(refine Det.useQ (g5) ?_)|(refine Ag.use (g5) ?_)|(refine Ad.use (g5) ?_)|(refine Det.use (g6) ?_)|(refine Det.useQ (g6) ?_)|(refine Ag.use (g6) ?_)|(refine Ad.use (g6) ?_)|(refine Det.use (s1) ?_)|(refine Det.useQ (s1) ?_)|(refine Ag.use (s1) ?_)|(refine Ad.use (s1) ?_)|(refine Det.use (s2) ?_)|(refine Det.useQ (s2) ?_)|(refine Ag.use (s2) ?_)|(refine Ad.use (s2) ?_)|(refine Det.use (gR) ?_)|(refine Det.useQ (gR) ?_)|(refine Ag.use (gR) ?_)|(refine Ad.use (gR) ?_)|(refine Det.use (g7) ?_)|(refine Det.useQ (g7) ?_)|(refine Ag.use (g7) ?_)|(refine Ad.use (g7) ?_)|(refine Det.use (g8) ?_)|(refine Det.useQ (g8) ?_)|(refine Ag.use (g8) ?_)|(refine Ad.use (g8) ?_)|(refine Det.use (s3) ?_)|(refine Det.useQ (s3) ?_)|(refine Ag.use (s3) ?_)|(refine Ad.use (s3) ?_)|(refine Det.use (gA) ?_)|(refine Det.useQ (gA) ?_)|(refine Ag.use (gA) ?_)|(refine Ad.use (gA) ?_));simp only [go_sem,Nat.reduceLT,Nat.reduceEqDiff,Nat.reduceMul,Int.reduceToNat,Int.reduceLE,↓reduceIte,reduceCtorEq])|(exact True.intro)|(exfalso;omega)))
        | false =>
         rw [hap] at gA
         have s3:=Jz
         cases h7:getT q t with
         | error e =>
          rw [h7] at g7
          cases h8:getT q z with
          | error e' =>
           rw [h8] at g8
           unfold getR at g7 g8
           (refine Al.of_code (X:=cx) false [] (by simp) Tryz.func6 (by kernel_rfl) rfl (by simp only [List.length_cons,List.length_nil,Tryz.ntmps6];decide) (by simp) ?_;refine Ae hm _ _ _ ?_;simp only [Tryz.ntmps6,Tryz.results6,go_sem,Nat.reduceLT,Nat.reduceLeDiff,Nat.reduceEqDiff,Nat.reduceAdd,Nat.reduceSub,Nat.reduceMul,Nat.reduceBEq,Int.reduceToNat,Int.reduceLT,Int.reduceLE,Int.reduceEq,Int.reduceAdd,Int.reduceSub,Int.reduceNeg,↓reduceIte,reduceCtorEq])
           (repeat' (first | (refine iteI (fun h=>?_) (fun h=>?_))|(refine Ak (by first | omega | (simp (disch:=omega) only [Aa,Ab,Ac] at *;omega)) ?_;intro b hb)|(refine And.intro (by first | omega | (simp (disch:=omega) only [Aa,Ab,Ac] at *;omega)) ?_)|((first | (refine Ah hm (by rfl) (by kernel_rfl) ?_)|(refine Det.use (hFp) ?_)|(refine Det.useQ (hFp) ?_)|(refine Ag.use (hFp) ?_)|(refine Ad.use (hFp) ?_)|(refine Det.use (hFq) ?_)|(refine Det.useQ (hFq) ?_)|(refine Ag.use (hFq) ?_)|(refine Ad.use (hFq) ?_)|(refine Det.use (hOp) ?_)|(refine Det.useQ (hOp) ?_)|(refine Ag.use (hOp) ?_)|(refine Ad.use (hOp) ?_)|(refine Det.use (hOq) ?_)|(refine Det.useQ (hOq) ?_)|(refine Ag.use (hOq) ?_)|(refine Ad.use (hOq) ?_)|(refine Det.use (hFv) ?_)|(refine Det.useQ (hFv) ?_)|(refine Ag.use (hFv) ?_)|(refine Ad.use (hFv) ?_)|(refine Det.use (hFu) ?_)|(refine Det.useQ (hFu) ?_)|(refine Ag.use (hFu) ?_)|(refine Ad.use (hFu) ?_)|(refine Det.use (Av) ?_)|(refine Det.useQ (Av) ?_)|(refine Det.use (g1) ?_)|(refine Det.useQ (g1) ?_)|(refine Ag.use (g1) ?_)|(refine Ad.use (g1) ?_)|(refine Det.use (g3) ?_)|(refine Det.useQ (g3) ?_)|(refine Ag.use (g3) ?_)|(refine Ad.use (g3) ?_)|(refine Det.use (g5) ?_)|(refine Det.useQ (g5) ?_)|(refine Ag.use (g5) ?_)|(refine Ad.use (g5) ?_)|(refine Det.use (g6) ?_)|(refine Det.useQ (g6) ?_)|(refine Ag.use (g6) ?_)|(refine Ad.use (g6) ?_)|(refine Det.use (s1) ?_)|(refine Det.useQ (s1) ?_)|(refine Ag.use (s1) ?_)|(refine Ad.use (s1) ?_)|(refine Det.use (s2) ?_)|(refine Det.useQ (s2) ?_)|(refine Ag.use (s2) ?_)|(refine Ad.use (s2) ?_)|(refine Det.use (gR) ?_)|(refine Det.useQ (gR) ?_)|(refine Ag.use (gR) ?_)|(refine Ad.use (gR) ?_)|(refine Det.use (g7) ?_)|(refine Det.useQ (g7) ?_)|(refine Ag.use (g7) ?_)|(refine Ad.use (g7) ?_)|(refine Det.use (g8) ?_)|(refine Det.useQ (g8) ?_)|(refine Ag.use (g8) ?_)|(refine Ad.use (g8) ?_)|(refine Det.use (s3) ?_)|(refine Det.useQ (s3) ?_)|(refine Ag.use (s3) ?_)|(refine Ad.use (s3) ?_)|(refine Det.use (gA) ?_)|(refine Det.useQ (gA) ?_)|(refine Ag.use (gA) ?_)|(refine Ad.use (gA) ?_));simp only [go_sem,Nat.reduceLT,Nat.reduceEqDiff,Nat.reduceMul,Int.reduceToNat,Int.reduceLE,↓reduceIte,reduceCtorEq])|(exact True.intro)|(exfalso;omega)))
          | ok b =>
           rw [h8] at g8
           unfold getR at g7 g8
           (refine Al.of_code (X:=cx) false [] (by simp) Tryz.func6 (by kernel_rfl) rfl (by simp only [List.length_cons,List.length_nil,Tryz.ntmps6];decide) (by simp) ?_;refine Ae hm _ _ _ ?_;simp only [Tryz.ntmps6,Tryz.results6,go_sem,Nat.reduceLT,Nat.reduceLeDiff,Nat.reduceEqDiff,Nat.reduceAdd,Nat.reduceSub,Nat.reduceMul,Nat.reduceBEq,Int.reduceToNat,Int.reduceLT,Int.reduceLE,Int.reduceEq,Int.reduceAdd,Int.reduceSub,Int.reduceNeg,↓reduceIte,reduceCtorEq])
           (repeat' (first | (refine iteI (fun h=>?_) (fun h=>?_))|(refine Ak (by first | omega | (simp (disch:=omega) only [Aa,Ab,Ac] at *;omega)) ?_;intro b hb)|(refine And.intro (by first | omega | (simp (disch:=omega) only [Aa,Ab,Ac] at *;omega)) ?_)|((first | (refine Ah hm (by rfl) (by kernel_rfl) ?_)|(refine Det.use (hFp) ?_)|(refine Det.useQ (hFp) ?_)|(refine Ag.use (hFp) ?_)|(refine Ad.use (hFp) ?_)|(refine Det.use (hFq) ?_)|(refine Det.useQ (hFq) ?_)|(refine Ag.use (hFq) ?_)|(refine Ad.use (hFq) ?_)|(refine Det.use (hOp) ?_)|(refine Det.useQ (hOp) ?_)|(refine Ag.use (hOp) ?_)|(refine Ad.use (hOp) ?_)|(refine Det.use (hOq) ?_)|(refine Det.useQ (hOq) ?_)|(refine Ag.use (hOq) ?_)|(refine Ad.use (hOq) ?_)|(refine Det.use (hFv) ?_)|(refine Det.useQ (hFv) ?_)|(refine Ag.use (hFv) ?_)|(refine Ad.use (hFv) ?_)|(refine Det.use (hFu) ?_)|(refine Det.useQ (hFu) ?_)|(refine Ag.use (hFu) ?_)|(refine Ad.use (hFu) ?_)|(refine Det.use (Av) ?_)|(refine Det.useQ (Av) ?_)|(refine Det.use (g1) ?_)|(refine Det.useQ (g1) ?_)|(refine Ag.use (g1) ?_)|(refine Ad.use (g1) ?_)|(refine Det.use (g3) ?_)|(refine Det.useQ (g3) ?_)|(refine Ag.use (g3) ?_)|(refine Ad.use (g3) ?_)|(refine Det.use (g5) ?_)|(refine Det.useQ (g5) ?_)|(refine Ag.use (g5) ?_)|(refine Ad.use (g5) ?_)|(refine Det.use (g6) ?_)|(refine Det.useQ (g6) ?_)|(refine Ag.use (g6) ?_)|(refine Ad.use (g6) ?_)|(refine Det.use (s1) ?_)|(refine Det.useQ (s1) ?_)|(refine Ag.use (s1) ?_)|(refine Ad.use (s1) ?_)|(refine Det.use (s2) ?_)|(refine Det.useQ (s2) ?_)|(refine Ag.use (s2) ?_)|(refine Ad.use (s2) ?_)|(refine Det.use (gR) ?_)|(refine Det.useQ (gR) ?_)|(refine Ag.use (gR) ?_)|(refine Ad.use (gR) ?_)|(refine Det.use (g7) ?_)|(refine Det.useQ (g7) ?_)|(refine Ag.use (g7) ?_)|(refine Ad.use (g7) ?_)|(refine Det.use (g8) ?_)|(refine Det.useQ (g8) ?_)|(refine Ag.use (g8) ?_)|(refine Ad.use (g8) ?_)|(refine Det.use (s3) ?_)|(refine Det.useQ (s3) ?_)|(refine Ag.use (s3) ?_)|(refine Ad.use (s3) ?_)|(refine Det.use (gA) ?_)|(refine Det.useQ (gA) ?_)|(refine Ag.use (gA) ?_)|(refine Ad.use (gA) ?_));simp only [go_sem,Nat.reduceLT,Nat.reduceEqDiff,Nat.reduceMul,Int.reduceToNat,Int.reduceLE,↓reduceIte,reduceCtorEq])|(exact True.intro)|(exfalso;omega)))
         | ok a =>
          rw [h7] at g7
          cases h8:getT q z with
          | error e' =>
           rw [h8] at g8
           unfold getR at g7 g8
           (refine Al.of_code (X:=cx) false [] (by simp) Tryz.func6 (by kernel_rfl) rfl (by simp only [List.length_cons,List.length_nil,Tryz.ntmps6];decide) (by simp) ?_;refine Ae hm _ _ _ ?_;simp only [Tryz.ntmps6,Tryz.results6,go_sem,Nat.reduceLT,Nat.reduceLeDiff,Nat.reduceEqDiff,Nat.reduceAdd,Nat.reduceSub,Nat.reduceMul,Nat.reduceBEq,Int.reduceToNat,Int.reduceLT,Int.reduceLE,Int.reduceEq,Int.reduceAdd,Int.reduceSub,Int.reduceNeg,↓reduceIte,reduceCtorEq])
           (repeat' (first | (refine iteI (fun h=>?_) (fun h=>?_))|(refine Ak (by first | omega | (simp (disch:=omega) only [Aa,Ab,Ac] at *;omega)) ?_;intro b hb)|(refine And.intro (by first | omega | (simp (disch:=omega) only [Aa,Ab,Ac] at *;omega)) ?_)|((first | (refine Ah hm (by rfl) (by kernel_rfl) ?_)|(refine Det.use (hFp) ?_)|(refine Det.useQ (hFp) ?_)|(refine Ag.use (hFp) ?_)|(refine Ad.use (hFp) ?_)|(refine Det.use (hFq) ?_)|(refine Det.useQ (hFq) ?_)|(refine Ag.use (hFq) ?_)|(refine Ad.use (hFq) ?_)|(refine Det.use (hOp) ?_)|(refine Det.useQ (hOp) ?_)|(refine Ag.use (hOp) ?_)|(refine Ad.use (hOp) ?_)|(refine Det.use (hOq) ?_)|(refine Det.useQ (hOq) ?_)|(refine Ag.use (hOq) ?_)|(refine Ad.use (hOq) ?_)|(refine Det.use (hFv) ?_)|(refine Det.useQ (hFv) ?_)|(refine Ag.use (hFv) ?_)|(refine Ad.use (hFv) ?_)|(refine Det.use (hFu) ?_)|(refine Det.useQ (hFu) ?_)|(refine Ag.use (hFu) ?_)|(refine Ad.use (hFu) ?_)|(refine Det.use (Av) ?_)|(refine Det.useQ (Av) ?_)|(refine Det.use (g1) ?_)|(refine Det.useQ (g1) ?_)|(refine Ag.use (g1) ?_)|(refine Ad.use (g1) ?_)|(refine Det.use (g3) ?_)|(refine Det.useQ (g3) ?_)|(refine Ag.use (g3) ?_)|(refine Ad.use (g3) ?_)|(refine Det.use (g5) ?_)|(refine Det.useQ (g5) ?_)|(refine Ag.use (g5) ?_)|(refine Ad.use (g5) ?_)|(refine Det.use (g6) ?_)|(refine Det.useQ (g6) ?_)|(refine Ag.use (g6) ?_)|(refine Ad.use (g6) ?_)|(refine Det.use (s1) ?_)|(refine Det.useQ (s1) ?_)|(refine Ag.use (s1) ?_)|(refine Ad.use (s1) ?_)|(refine Det.use (s2) ?_)|(refine Det.useQ (s2) ?_)|(refine Ag.use (s2) ?_)|(refine Ad.use (s2) ?_)|(refine Det.use (gR) ?_)|(refine Det.useQ (gR) ?_)|(refine Ag.use (gR) ?_)|(refine Ad.use (gR) ?_)|(refine Det.use (g7) ?_)|(refine Det.useQ (g7) ?_)|(refine Ag.use (g7) ?_)|(refine Ad.use (g7) ?_)|(refine Det.use (g8) ?_)|(refine Det.useQ (g8) ?_)|(refine Ag.use (g8) ?_)|(refine Ad.use (g8) ?_)|(refine Det.use (s3) ?_)|(refine Det.useQ (s3) ?_)|(refine Ag.use (s3) ?_)|(refine Ad.use (s3) ?_)|(refine Det.use (gA) ?_)|(refine Det.useQ (gA) ?_)|(refine Ag.use (gA) ?_)|(refine Ad.use (gA) ?_));simp only [go_sem,Nat.reduceLT,Nat.reduceEqDiff,Nat.reduceMul,Int.reduceToNat,Int.reduceLE,↓reduceIte,reduceCtorEq])|(exact True.intro)|(exfalso;omega)))
          | ok b =>
           rw [h8] at g8
           unfold getR at g7 g8
           (refine Al.of_code (X:=cx) false [] (by simp) Tryz.func6 (by kernel_rfl) rfl (by simp only [List.length_cons,List.length_nil,Tryz.ntmps6];decide) (by simp) ?_;refine Ae hm _ _ _ ?_;simp only [Tryz.ntmps6,Tryz.results6,go_sem,Nat.reduceLT,Nat.reduceLeDiff,Nat.reduceEqDiff,Nat.reduceAdd,Nat.reduceSub,Nat.reduceMul,Nat.reduceBEq,Int.reduceToNat,Int.reduceLT,Int.reduceLE,Int.reduceEq,Int.reduceAdd,Int.reduceSub,Int.reduceNeg,↓reduceIte,reduceCtorEq])
           (repeat' (first | (refine iteI (fun h=>?_) (fun h=>?_))|(refine Ak (by first | omega | (simp (disch:=omega) only [Aa,Ab,Ac] at *;omega)) ?_;intro b hb)|(refine And.intro (by first | omega | (simp (disch:=omega) only [Aa,Ab,Ac] at *;omega)) ?_)|((first | (refine Ah hm (by rfl) (by kernel_rfl) ?_)|(refine Det.use (hFp) ?_)|(refine Det.useQ (hFp) ?_)|(refine Ag.use (hFp) ?_)|(refine Ad.use (hFp) ?_)|(refine Det.use (hFq) ?_)|(refine Det.useQ (hFq) ?_)|(refine Ag.use (hFq) ?_)|(refine Ad.use (hFq) ?_)|(refine Det.use (hOp) ?_)|(refine Det.useQ (hOp) ?_)|(refine Ag.use (hOp) ?_)|(refine Ad.use (hOp) ?_)|(refine Det.use (hOq) ?_)|(refine Det.useQ (hOq) ?_)|(refine Ag.use (hOq) ?_)|(refine Ad.use (hOq) ?_)|(refine Det.use (hFv) ?_)|(refine Det.useQ (hFv) ?_)|(refine Ag.use (hFv) ?_)|(refine Ad.use (hFv) ?_)|(refine Det.use (hFu) ?_)|(refine Det.useQ (hFu) ?_)|(refine Ag.use (hFu) ?_)|(refine Ad.use (hFu) ?_)|(refine Det.use (Av) ?_)|(refine Det.useQ (Av) ?_)|(refine Det.use (g1) ?_)|(refine Det.useQ (g1) ?_)|(refine Ag.use (g1) ?_)|(refine Ad.use (g1) ?_)|(refine Det.use (g3) ?_)|(refine Det.useQ (g3) ?_)|(refine Ag.use (g3) ?_)|(refine Ad.use (g3) ?_)|(refine Det.use (g5) ?_)|(refine Det.useQ (g5) ?_)|(refine Ag.use (g5) ?_)|(refine Ad.use (g5) ?_)|(refine Det.use (g6) ?_)|(refine Det.useQ (g6) ?_)|(refine Ag.use (g6) ?_)|(refine Ad.use (g6) ?_)|(refine Det.use (s1) ?_)|(refine Det.useQ (s1) ?_)|(refine Ag.use (s1) ?_)|(refine Ad.use (s1) ?_)|(refine Det.use (s2) ?_)|(refine Det.useQ (s2) ?_)|(refine Ag.use (s2) ?_)|(refine Ad.use (s2) ?_)|(refine Det.use (gR) ?_)|(refine Det.useQ (gR) ?_)|(refine Ag.use (gR) ?_)|(refine Ad.use (gR) ?_)|(refine Det.use (g7) ?_)|(refine Det.useQ (g7) ?_)|(refine Ag.use (g7) ?_)|(refine Ad.use (g7) ?_)|(refine Det.use (g8) ?_)|(refine Det.useQ (g8) ?_)|(refine Ag.use (g8) ?_)|(refine Ad.use (g8) ?_)|(refine Det.use (s3) ?_)|(refine Det.useQ (s3) ?_)|(refine Ag.use (s3) ?_)|(refine Ad.use (s3) ?_)|(refine Det.use (gA) ?_)|(refine Det.useQ (gA) ?_)|(refine Ag.use (gA) ?_)|(refine Ad.use (gA) ?_));simp only [go_sem,Nat.reduceLT,Nat.reduceEqDiff,Nat.reduceMul,Int.reduceToNat,Int.reduceLE,↓reduceIte,reduceCtorEq])|(exact True.intro)|(exfalso;omega)))
    ·rw [decide_eq_false oq] at hOq
     (refine Al.of_code (X:=cx) false [] (by simp) Tryz.func6 (by kernel_rfl) rfl (by simp only [List.length_cons,List.length_nil,Tryz.ntmps6];decide) (by simp) ?_;refine Ae hm _ _ _ ?_;simp only [Tryz.ntmps6,Tryz.results6,go_sem,Nat.reduceLT,Nat.reduceLeDiff,Nat.reduceEqDiff,Nat.reduceAdd,Nat.reduceSub,Nat.reduceMul,Nat.reduceBEq,Int.reduceToNat,Int.reduceLT,Int.reduceLE,Int.reduceEq,Int.reduceAdd,Int.reduceSub,Int.reduceNeg,↓reduceIte,reduceCtorEq])
     (repeat' (first | (refine iteI (fun h=>?_) (fun h=>?_))|(refine Ak (by first | omega | (simp (disch:=omega) only [Aa,Ab,Ac] at *;omega)) ?_;intro b hb)|(refine And.intro (by first | omega | (simp (disch:=omega) only [Aa,Ab,Ac] at *;omega)) ?_)|((first | (refine Ah hm (by rfl) (by kernel_rfl) ?_)|(refine Det.use (hFp) ?_)|(refine Det.useQ (hFp) ?_)|(refine Ag.use (hFp) ?_)|(refine Ad.use (hFp) ?_)|(refine Det.use (hFq) ?_)|(refine Det.useQ (hFq) ?_)|(refine Ag.use (hFq) ?_)|(refine Ad.use (hFq) ?_)|(refine Det.use (hOp) ?_)|(refine Det.useQ (hOp) ?_)|(refine Ag.use (hOp) ?_)|(refine Ad.use (hOp) ?_)|(refine Det.use (hOq) ?_)|(refine Det.useQ (hOq) ?_)|(refine Ag.use (hOq) ?_)|(refine Ad.use (hOq) ?_)|(refine Det.use (Av) ?_)|(refine Det.useQ (Av) ?_));simp only [go_sem,Nat.reduceLT,Nat.reduceEqDiff,Nat.reduceMul,Int.reduceToNat,Int.reduceLE,↓reduceIte])|(exact True.intro)|(exfalso;omega)))
   ·rw [decide_eq_false op] at hOp
    (refine Al.of_code (X:=cx) false [] (by simp) Tryz.func6 (by kernel_rfl) rfl (by simp only [List.length_cons,List.length_nil,Tryz.ntmps6];decide) (by simp) ?_;refine Ae hm _ _ _ ?_;simp only [Tryz.ntmps6,Tryz.results6,go_sem,Nat.reduceLT,Nat.reduceLeDiff,Nat.reduceEqDiff,Nat.reduceAdd,Nat.reduceSub,Nat.reduceMul,Nat.reduceBEq,Int.reduceToNat,Int.reduceLT,Int.reduceLE,Int.reduceEq,Int.reduceAdd,Int.reduceSub,Int.reduceNeg,↓reduceIte,reduceCtorEq])
    (repeat' (first | (refine iteI (fun h=>?_) (fun h=>?_))|(refine Ak (by first | omega | (simp (disch:=omega) only [Aa,Ab,Ac] at *;omega)) ?_;intro b hb)|(refine And.intro (by first | omega | (simp (disch:=omega) only [Aa,Ab,Ac] at *;omega)) ?_)|((first | (refine Ah hm (by rfl) (by kernel_rfl) ?_)|(refine Det.use (hFp) ?_)|(refine Det.useQ (hFp) ?_)|(refine Ag.use (hFp) ?_)|(refine Ad.use (hFp) ?_)|(refine Det.use (hFq) ?_)|(refine Det.useQ (hFq) ?_)|(refine Ag.use (hFq) ?_)|(refine Ad.use (hFq) ?_)|(refine Det.use (hOp) ?_)|(refine Det.useQ (hOp) ?_)|(refine Ag.use (hOp) ?_)|(refine Ad.use (hOp) ?_)|(refine Det.use (Av) ?_)|(refine Det.useQ (Av) ?_));simp only [go_sem,Nat.reduceLT,Nat.reduceEqDiff,Nat.reduceMul,Int.reduceToNat,Int.reduceLE,↓reduceIte])|(exact True.intro)|(exfalso;omega)))
  ·rw [decide_eq_false fq] at hFq
   (refine Al.of_code (X:=cx) false [] (by simp) Tryz.func6 (by kernel_rfl) rfl (by simp only [List.length_cons,List.length_nil,Tryz.ntmps6];decide) (by simp) ?_;refine Ae hm _ _ _ ?_;simp only [Tryz.ntmps6,Tryz.results6,go_sem,Nat.reduceLT,Nat.reduceLeDiff,Nat.reduceEqDiff,Nat.reduceAdd,Nat.reduceSub,Nat.reduceMul,Nat.reduceBEq,Int.reduceToNat,Int.reduceLT,Int.reduceLE,Int.reduceEq,Int.reduceAdd,Int.reduceSub,Int.reduceNeg,↓reduceIte,reduceCtorEq])
   (repeat' (first | (refine iteI (fun h=>?_) (fun h=>?_))|(refine Ak (by first | omega | (simp (disch:=omega) only [Aa,Ab,Ac] at *;omega)) ?_;intro b hb)|(refine And.intro (by first | omega | (simp (disch:=omega) only [Aa,Ab,Ac] at *;omega)) ?_)|((first | (refine Ah hm (by rfl) (by kernel_rfl) ?_)|(refine Det.use (hFp) ?_)|(refine Det.useQ (hFp) ?_)|(refine Ag.use (hFp) ?_)|(refine Ad.use (hFp) ?_)|(refine Det.use (hFq) ?_)|(refine Det.useQ (hFq) ?_)|(refine Ag.use (hFq) ?_)|(refine Ad.use (hFq) ?_)|(refine Det.use (Av) ?_)|(refine Det.useQ (Av) ?_));simp only [go_sem,Nat.reduceLT,Nat.reduceEqDiff,Nat.reduceMul,Int.reduceToNat,Int.reduceLE,↓reduceIte])|(exact True.intro)|(exfalso;omega)))
 ·rw [decide_eq_false fp] at hFp
  (refine Al.of_code (X:=cx) false [] (by simp) Tryz.func6 (by kernel_rfl) rfl (by simp only [List.length_cons,List.length_nil,Tryz.ntmps6];decide) (by simp) ?_;refine Ae hm _ _ _ ?_;simp only [Tryz.ntmps6,Tryz.results6,go_sem,Nat.reduceLT,Nat.reduceLeDiff,Nat.reduceEqDiff,Nat.reduceAdd,Nat.reduceSub,Nat.reduceMul,Nat.reduceBEq,Int.reduceToNat,Int.reduceLT,Int.reduceLE,Int.reduceEq,Int.reduceAdd,Int.reduceSub,Int.reduceNeg,↓reduceIte,reduceCtorEq])
  (repeat' (first | (refine iteI (fun h=>?_) (fun h=>?_))|(refine Ak (by first | omega | (simp (disch:=omega) only [Aa,Ab,Ac] at *;omega)) ?_;intro b hb)|(refine And.intro (by first | omega | (simp (disch:=omega) only [Aa,Ab,Ac] at *;omega)) ?_)|((first | (refine Ah hm (by rfl) (by kernel_rfl) ?_)|(refine Det.use (hFp) ?_)|(refine Det.useQ (hFp) ?_)|(refine Ag.use (hFp) ?_)|(refine Ad.use (hFp) ?_)|(refine Det.use (Av) ?_)|(refine Det.useQ (Av) ?_));simp only [go_sem,Nat.reduceLT,Nat.reduceEqDiff,Nat.reduceMul,Int.reduceToNat,Int.reduceLE,↓reduceIte])|(exact True.intro)|(exfalso;omega)))
end Go.LX
