/- Rows of values that may be asked about. -/
import Derived.Test.YtmejkfclabmijaaGreatDoorLxY
import Derived.Test.YtmejkfclabmijaaGreatDoorLxZ
set_option linter.unusedSimpArgs false
set_option linter.unusedVariables false
set_option linter.unusedSectionVars false
set_option linter.unnecessarySimpa false
set_option maxRecDepth 100000
set_option maxHeartbeats 2000000
namespace Go.LX
open Go Go.RowKit Go.Proofs
attribute [local irreducible] Al SWP Bi
def T0 (vs:List (List Node)):List (List PV):=vs.map fun v=>[.sl (valL v)]
theorem Ht (vs:List (List Node)):(T0 vs).length=vs.length:=by simp [T0]
def sumL (vs:List (List Node)):Nat:=(vs.map List.length).sum
theorem Jg5 {vs:List (List Node)} {i:Nat} {v:List Node} (h:vs[i]? = some v):sumL (vs.take (i+1))=sumL (vs.take i)+v.length:=by
 unfold sumL
 rw [List.take_add_one,h];simp
theorem Jdw:∀ (vs:List (List Node)) (i:Nat),sumL (vs.take i)≤sumL vs
 | [],i=>by simp [sumL]
 | v :: vs,0=>by simp [sumL]
 | v :: vs,i+1=>by
  have:=Jdw vs i
  unfold sumL at this ⊢
  simp only [List.take_succ_cons,List.map_cons,List.sum_cons];omega
noncomputable def allB (vs:List (List Node)) (m:Nat):Bool:=decide (vs.length+sumL vs≤m) && vs.all fun v=>fewB v m
theorem Rv {vs:List (List Node)} {m:Nat}:allB vs m=true ↔ vs.length+sumL vs≤m∧∀ v∈vs,fewB v m=true:=by
 unfold allB;rw [Bool.and_eq_true,decide_eq_true_eq,List.all_eq_true]
theorem Q8 {vs:List (List Node)} {m:Nat} (h:¬ (vs.length+sumL vs≤m∧∀ v∈vs,fewB v m=true)):allB vs m=false:=by
 cases hb:allB vs m with
 | false=>rfl
 | true=>exact absurd (Rv.1 hb) h
theorem d_All (vs:List (List Node)) (m:Nat) (hm':m≤1000) (hl:vs.length≤140737488355328) (hv:∀ v∈vs,v.length≤140737488355328∧∀ n∈v,EFit n):Det cx 32 [.p (.sl (T0 vs)),.p (.int .i64 m)] [] (.p (.bool (allB vs m))) []:=by
 skip
 (refine Al.of_code (X:=cx) false [] (by simp) Tryz.func32 (by kernel_rfl) rfl (by simp only [List.length_cons,List.length_nil,Tryz.ntmps32];decide) (by simp) ?_;refine Ae hm _ _ _ ?_;simp only [Tryz.ntmps32,Tryz.results32,go_sem,Nat.reduceLT,Nat.reduceLeDiff,Nat.reduceEqDiff,Nat.reduceAdd,Nat.reduceSub,Nat.reduceMul,Nat.reduceBEq,Int.reduceToNat,Int.reduceLT,Int.reduceLE,Int.reduceEq,Int.reduceAdd,Int.reduceSub,Int.reduceNeg,↓reduceIte,reduceCtorEq,Ht,A7,if_true,if_false])
 (repeat' (first | (refine iteI (fun h=>?_) (fun h=>?_))|(refine Ak (by first | omega | (simp (disch:=omega) only [Aa,Ab,Ac] at *;omega)) ?_;intro b hb)|(refine And.intro (by first | omega | (simp (disch:=omega) only [Aa,Ab,Ac] at *;omega)) ?_)|((first | (refine Ah hm (by rfl) (by kernel_rfl) ?_));simp only [go_sem])|(exact True.intro)|(exfalso;omega)))
 refine SWP.loop (fun i:Nat=>⟨Ba 37 [(0,.p (.sl (T0 vs))),(1,.p (.int .i64 m)),(5,.p (.int .i64 (vs.length+sumL (vs.take i):Nat))),(6,.p (.int .i64 i))],[]⟩) (fun i=>i≤vs.length∧(i=0∨vs.length+sumL (vs.take i)≤m)∧∀ v∈vs.take i,fewB v m=true) (fun i=>vs.length - i) 0 (by simp only [List.take_zero,show sumL []=0 from rfl,Nat.add_zero];exact (St.le_slots (by simp only [Ap,Ar,Ao,Aj,Af,Nat.reduceEqDiff,reduceIte,Nat.reduceLT,Nat.reduceLeDiff];simp (disch:=omega) [Af,Ai,Au,Aa] <;> (repeat' apply And.intro) <;> omega) (by simp (disch:=omega) [Az,A3,Aw,Am,Af,Ai,Au,Aa]) (by simp [Ay]))) ⟨Nat.zero_le _,.inl rfl,by simp⟩ ?_
 rintro i ⟨h1,h2,h3⟩
 by_cases hi:¬ i<vs.length
 ·have c1:((i:Int)<(vs.length:Int))=False:=eq_false (by omega)
  have tk:vs.take i=vs:=List.take_of_length_le (by omega)
  rw [tk] at h2 h3 ⊢
  have hg:=c1
  have w1:=c1
  have w2:=c1
  have c2:=c1
  skip
  (refine Ae hm _ _ _ ?_;simp only [go_sem,Nat.reduceLT,Nat.reduceEqDiff,↓reduceIte,reduceCtorEq,Ht,c1])
  (repeat' (first | (refine iteI (fun h=>?_) (fun h=>?_))|(refine Ak (by first | omega | (simp (disch:=omega) only [Aa,Ab,Ac] at *;omega)) ?_;intro b hb)|(refine And.intro (by first | omega | (simp (disch:=omega) only [Aa,Ab,Ac] at *;omega)) ?_)|((first | (refine Ah hm (by rfl) (by kernel_rfl) ?_));simp only [go_sem])|(exact True.intro)|(exfalso;omega)))
  rw [Bool.eq_iff_iff,decide_eq_true_eq,Rv]
  constructor
  ·exact fun h=>⟨by omega,h3⟩
  ·exact fun h=>by omega
 ·have hi:=Decidable.not_not.1 hi
  have c1:((i:Int)<(vs.length:Int))=True:=eq_true (by omega)
  obtain ⟨v,hvi⟩:∃ v,vs[i]? = some v:=⟨_,List.getElem?_eq_getElem hi⟩
  have hmem:=List.mem_of_getElem? hvi
  obtain ⟨hvl,hvn⟩:=hv v hmem
  have hg:(T0 vs)[i]? = some [.sl (valL v)]:=by simp [T0,hvi]
  have hs:=Jg5 hvi
  have hsl:=Jdw vs (i+1)
  have hbase:vs.length+sumL (vs.take i)≤140737488355328:=by
   rcases h2 with rfl | h2
   ·simp [sumL];exact hl
   ·omega
  have w1:IntKind.i64.wrap ((i:Int)+1)=((i+1:Nat):Int):=by rw [Aa (by omega) (by omega)];omega
  have w2:IntKind.i64.wrap (((vs.length+sumL (vs.take i):Nat):Int)+(v.length:Int))=((vs.length+sumL (vs.take (i+1)):Nat):Int):=by rw [Aa (by omega) (by omega),hs];omega
  have hF:=Ln v m hm' (by omega) hvn
  by_cases hlt:m<vs.length+sumL (vs.take (i+1))
  ·have c2:((m:Int)<((vs.length+sumL (vs.take (i+1)):Nat):Int))=True:=eq_true (by omega)
   have hb:=Q8 (vs:=vs) (m:=m) (by omega)
   (refine Ae hm _ _ _ ?_;simp only [go_sem,Nat.reduceLT,Nat.reduceEqDiff,↓reduceIte,reduceCtorEq,Ht,A7,c1,hg,w2,c2])
   (repeat' (first | (refine iteI (fun h=>?_) (fun h=>?_))|(refine Ak (by first | omega | (simp (disch:=omega) only [Aa,Ab,Ac] at *;omega)) ?_;intro b hb)|(refine And.intro (by first | omega | (simp (disch:=omega) only [Aa,Ab,Ac] at *;omega)) ?_)|((first | (refine Ah hm (by rfl) (by kernel_rfl) ?_)|(refine Det.use (hF) ?_)|(refine Det.useQ (hF) ?_)|(refine Ag.use (hF) ?_)|(refine Ad.use (hF) ?_));simp only [go_sem])|(exact True.intro)|(exfalso;omega)))
   rw [hb]
  ·have c2:((m:Int)<((vs.length+sumL (vs.take (i+1)):Nat):Int))=False:=eq_false (by omega)
   cases hb1:fewB v m with
   | false =>
    rw [hb1] at hF
    have hb:=Q8 (vs:=vs) (m:=m) (fun h=>by have:=h.2 v hmem;rw [hb1] at this;cases this)
    (refine Ae hm _ _ _ ?_;simp only [go_sem,Nat.reduceLT,Nat.reduceEqDiff,↓reduceIte,reduceCtorEq,Ht,A7,c1,hg,w2,c2])
    (repeat' (first | (refine iteI (fun h=>?_) (fun h=>?_))|(refine Ak (by first | omega | (simp (disch:=omega) only [Aa,Ab,Ac] at *;omega)) ?_;intro b hb)|(refine And.intro (by first | omega | (simp (disch:=omega) only [Aa,Ab,Ac] at *;omega)) ?_)|((first | (refine Ah hm (by rfl) (by kernel_rfl) ?_)|(refine Det.use (hF) ?_)|(refine Det.useQ (hF) ?_)|(refine Ag.use (hF) ?_)|(refine Ad.use (hF) ?_));simp only [go_sem,Nat.reduceLT,Nat.reduceEqDiff,↓reduceIte])|(exact True.intro)|(exfalso;omega)))
    rw [hb]
   | true =>
    rw [hb1] at hF
    (refine Ae hm _ _ _ ?_;simp only [go_sem,Nat.reduceLT,Nat.reduceEqDiff,↓reduceIte,reduceCtorEq,Ht,A7,c1,hg,w2,c2])
    (repeat' (first | (refine iteI (fun h=>?_) (fun h=>?_))|(refine Ak (by first | omega | (simp (disch:=omega) only [Aa,Ab,Ac] at *;omega)) ?_;intro b hb)|(refine And.intro (by first | omega | (simp (disch:=omega) only [Aa,Ab,Ac] at *;omega)) ?_)|((first | (refine Ah hm (by rfl) (by kernel_rfl) ?_)|(refine Det.use (hF) ?_)|(refine Det.useQ (hF) ?_)|(refine Ag.use (hF) ?_)|(refine Ad.use (hF) ?_));simp only [go_sem,Nat.reduceLT,Nat.reduceEqDiff,↓reduceIte,reduceCtorEq,w1])|(exact True.intro)|(exfalso;omega)))
    refine ⟨i+1,⟨by omega,.inr (by omega),fun x hx=>?_⟩,by omega,(St.le_slots (by simp only [Ap,Ar,Ao,Aj,Af,Nat.reduceEqDiff,reduceIte,Nat.reduceLT,Nat.reduceLeDiff];simp (disch:=omega) [Af,Ai,Au,Aa] <;> (repeat' apply And.intro) <;> omega) (by simp (disch:=omega) [Az,A3,Aw,Am,Af,Ai,Au,Aa]) (by simp [Ay]))⟩
    rw [List.take_add_one,hvi] at hx
    rcases List.mem_append.1 hx with hx | hx
    ·exact h3 x hx
    ·simp at hx;subst hx;exact hb1
end Go.LX
set_option maxRecDepth 100000
set_option maxHeartbeats 2000000
namespace Go.LX
open Go Go.RowKit Go.Proofs
attribute [local irreducible] Al SWP Bi
theorem Yi (p q:List Step) (v u0 u1:List Node) (hp:PathFit p) (hq:PathFit q) (hv:ValFit v) (h0:ValFit u0) (h1:ValFit u1):Det cx 7 [.p (.agg [.sl (Bb p),.sl (Bb q)]),.p (.sl (valL v)),.p (.agg [.sl (valL u0),.sl (valL u1)])] [] (.p (.bool true)) []:=by
 have tr:True:=trivial
 have htk:=tr
 have w1:=tr
 have c1:=tr
 have hFp:=Pe p hp.len hp.name
 by_cases fp:fewP p
 ·rw [decide_eq_true fp] at hFp
  have hFq:=Pe q hq.len hq.name
  by_cases fq:fewP q
  ·rw [decide_eq_true fq] at hFq
   have hOp:=D4 p (by have:=fp.1;omega) (fun x hx=>by have:=fp.2 x hx;omega)
   by_cases op:E9 p
   ·rw [decide_eq_true op] at hOp
    have hOq:=D4 q (by have:=fq.1;omega) (fun x hx=>by have:=fq.2 x hx;omega)
    by_cases oq:E9 q
    ·rw [decide_eq_true oq] at hOq
     have hFv:=Ln v 60 (by decide) (by have:=hv.len;omega) hv.node
     cases bv:fewB v 60 with
     | false =>
      rw [bv] at hFv
      (refine Al.of_code (X:=cx) false [] (by simp) Tryz.func7 (by kernel_rfl) rfl (by simp only [List.length_cons,List.length_nil,Tryz.ntmps7];decide) (by simp) ?_;refine Ae hm _ _ _ ?_;simp only [Tryz.ntmps7,Tryz.results7,go_sem,Nat.reduceLT,Nat.reduceLeDiff,Nat.reduceEqDiff,Nat.reduceAdd,Nat.reduceSub,Nat.reduceMul,Nat.reduceBEq,Int.reduceToNat,Int.reduceLT,Int.reduceLE,Int.reduceEq,Int.reduceAdd,Int.reduceSub,Int.reduceNeg,↓reduceIte,reduceCtorEq])
      (repeat' (first | (refine iteI (fun h=>?_) (fun h=>?_))|(refine Ak (by first | omega | (simp (disch:=omega) only [Aa,Ab,Ac] at *;omega)) ?_;intro b hb)|(refine And.intro (by first | omega | (simp (disch:=omega) only [Aa,Ab,Ac] at *;omega)) ?_)|((first | (refine Ah hm (by rfl) (by kernel_rfl) ?_)|(refine Det.use (hFp) ?_)|(refine Det.useQ (hFp) ?_)|(refine Ag.use (hFp) ?_)|(refine Ad.use (hFp) ?_)|(refine Det.use (hFq) ?_)|(refine Det.useQ (hFq) ?_)|(refine Ag.use (hFq) ?_)|(refine Ad.use (hFq) ?_)|(refine Det.use (hOp) ?_)|(refine Det.useQ (hOp) ?_)|(refine Ag.use (hOp) ?_)|(refine Ad.use (hOp) ?_)|(refine Det.use (hOq) ?_)|(refine Det.useQ (hOq) ?_)|(refine Ag.use (hOq) ?_)|(refine Ad.use (hOq) ?_)|(refine Det.use (hFv) ?_)|(refine Det.useQ (hFv) ?_)|(refine Ag.use (hFv) ?_)|(refine Ad.use (hFv) ?_)|(refine Det.use (Av) ?_)|(refine Det.useQ (Av) ?_));simp only [go_sem,Nat.reduceLT,Nat.reduceEqDiff,Nat.reduceMul,Int.reduceToNat,Int.reduceLE,↓reduceIte,reduceCtorEq])|(exact True.intro)|(exfalso;omega)))
     | true =>
      rw [bv] at hFv
      have hAl:Det cx 32 [.p (.sl [[.sl (valL u0)],[.sl (valL u1)]]),.p (.int .i64 60)] [] (.p (.bool (allB [u0,u1] 60))) []:=d_All [u0,u1] 60 (by decide) (by simp) (by
       intro x hx
       simp at hx
       rcases hx with rfl | rfl
       ·exact ⟨h0.len,h0.node⟩
       ·exact ⟨h1.len,h1.node⟩)
      cases bu:allB [u0,u1] 60 with
      | false =>
       rw [bu] at hAl
       (refine Al.of_code (X:=cx) false [] (by simp) Tryz.func7 (by kernel_rfl) rfl (by simp only [List.length_cons,List.length_nil,Tryz.ntmps7];decide) (by simp) ?_;refine Ae hm _ _ _ ?_;simp only [Tryz.ntmps7,Tryz.results7,go_sem,Nat.reduceLT,Nat.reduceLeDiff,Nat.reduceEqDiff,Nat.reduceAdd,Nat.reduceSub,Nat.reduceMul,Nat.reduceBEq,Int.reduceToNat,Int.reduceLT,Int.reduceLE,Int.reduceEq,Int.reduceAdd,Int.reduceSub,Int.reduceNeg,↓reduceIte,reduceCtorEq])
       (repeat' (first | (refine iteI (fun h=>?_) (fun h=>?_))|(refine Ak (by first | omega | (simp (disch:=omega) only [Aa,Ab,Ac] at *;omega)) ?_;intro b hb)|(refine And.intro (by first | omega | (simp (disch:=omega) only [Aa,Ab,Ac] at *;omega)) ?_)|((first | (refine Ah hm (by rfl) (by kernel_rfl) ?_)|(refine Det.use (hFp) ?_)|(refine Det.useQ (hFp) ?_)|(refine Ag.use (hFp) ?_)|(refine Ad.use (hFp) ?_)|(refine Det.use (hFq) ?_)|(refine Det.useQ (hFq) ?_)|(refine Ag.use (hFq) ?_)|(refine Ad.use (hFq) ?_)|(refine Det.use (hOp) ?_)|(refine Det.useQ (hOp) ?_)|(refine Ag.use (hOp) ?_)|(refine Ad.use (hOp) ?_)|(refine Det.use (hOq) ?_)|(refine Det.useQ (hOq) ?_)|(refine Ag.use (hOq) ?_)|(refine Ad.use (hOq) ?_)|(refine Det.use (hFv) ?_)|(refine Det.useQ (hFv) ?_)|(refine Ag.use (hFv) ?_)|(refine Ad.use (hFv) ?_)|(refine Det.use (hAl) ?_)|(refine Det.useQ (hAl) ?_)|(refine Ag.use (hAl) ?_)|(refine Ad.use (hAl) ?_)|(refine Det.use (Av) ?_)|(refine Det.useQ (Av) ?_));simp only [go_sem,Nat.reduceLT,Nat.reduceEqDiff,Nat.reduceAdd,Nat.reduceMul,Int.reduceToNat,Int.reduceLE,↓reduceIte,reduceCtorEq])|(exact True.intro)|(exfalso;omega)))
      | true =>
       rw [bu] at hAl
       obtain ⟨t,ht,rfl,htl,htf⟩:=Fw hv bv
       have hab:=Rv.1 bu
       obtain ⟨y0,hy0,rfl,hyl0,hyf0⟩:=Fw h0 (hab.2 u0 (by simp))
       obtain ⟨y1,hy1,rfl,hyl1,hyf1⟩:=Fw h1 (hab.2 u1 (by simp))
       have npl:p.length≤31:=fp.1
       have nql:q.length≤31:=fq.1
       have npn:∀ x∈p,x.name.length≤1000000:=fun x hx=>by have:=fp.2 x hx;omega
       have nqn:∀ x∈q,x.name.length≤1000000:=fun x hx=>by have:=fq.2 x hx;omega
       have gA:=I7 p q (by omega) (by omega) npn nqn
       have gB:=I7 q p (by omega) (by omega) nqn npn
       rw [Fc] at gA gB
       rw [Lg q p] at gB
       have g1:=L8 p t y0 (by omega) op.2 ht hy0 (by omega)
       have g2:=L8 q t y1 (by omega) oq.2 ht hy1 (by omega)
       skip
       (refine Al.of_code (X:=cx) false [] (by simp) Tryz.func7 (by kernel_rfl) rfl (by simp only [List.length_cons,List.length_nil,Tryz.ntmps7];decide) (by simp) ?_;refine Ae hm _ _ _ ?_;simp only [Tryz.ntmps7,Tryz.results7,go_sem,Nat.reduceLT,Nat.reduceLeDiff,Nat.reduceEqDiff,Nat.reduceAdd,Nat.reduceSub,Nat.reduceMul,Nat.reduceBEq,Int.reduceToNat,Int.reduceLT,Int.reduceLE,Int.reduceEq,Int.reduceAdd,Int.reduceSub,Int.reduceNeg,↓reduceIte,reduceCtorEq,Aq,if_true,if_false])
       (repeat' (first | (refine iteI (fun h=>?_) (fun h=>?_))|(refine Ak (by first | omega | (simp (disch:=omega) only [Aa,Ab,Ac] at *;omega)) ?_;intro b hb)|(refine And.intro (by first | omega | (simp (disch:=omega) only [Aa,Ab,Ac] at *;omega)) ?_)|((first | (refine Ah hm (by rfl) (by kernel_rfl) ?_)|(refine Det.use (hFp) ?_)|(refine Det.useQ (hFp) ?_)|(refine Ag.use (hFp) ?_)|(refine Ad.use (hFp) ?_)|(refine Det.use (hFq) ?_)|(refine Det.useQ (hFq) ?_)|(refine Ag.use (hFq) ?_)|(refine Ad.use (hFq) ?_)|(refine Det.use (hOp) ?_)|(refine Det.useQ (hOp) ?_)|(refine Ag.use (hOp) ?_)|(refine Ad.use (hOp) ?_)|(refine Det.use (hOq) ?_)|(refine Det.useQ (hOq) ?_)|(refine Ag.use (hOq) ?_)|(refine Ad.use (hOq) ?_)|(refine Det.use (hFv) ?_)|(refine Det.useQ (hFv) ?_)|(refine Ag.use (hFv) ?_)|(refine Ad.use (hFv) ?_)|(refine Det.use (hAl) ?_)|(refine Det.useQ (hAl) ?_)|(refine Ag.use (hAl) ?_)|(refine Ad.use (hAl) ?_)|(refine Det.use (Av) ?_)|(refine Det.useQ (Av) ?_));simp only [go_sem,Nat.reduceLT,Nat.reduceEqDiff,Nat.reduceAdd,Nat.reduceMul,Int.reduceToNat,Int.reduceLE,↓reduceIte,reduceCtorEq])|(exact True.intro)|(exfalso;omega)))
       refine SWP.loop (fun i:Nat=>⟨Ba 135 [(1,.p (.sl (valL (t.enc [])))),(5,.eptr [.sl (valL (y0.enc [])),.sl (valL (y1.enc []))]),(7,.p (.sl (Bb p))),(8,.p (.sl (Bb q))),(9,.p (.int .i64 i))],[]⟩) (fun i=>i≤p.length+1) (fun i=>p.length+1 - i) 0 (St.le_slots (by simp only [Ap,Ar,Ao,Aj,Af,Nat.reduceEqDiff,reduceIte,Nat.reduceLT,Nat.reduceLeDiff];simp (disch:=omega) [Af,Ai,Au,Aa] <;> (repeat' apply And.intro) <;> omega) (by simp (disch:=omega) [Az,A3,Aw,Am,Af,Ai,Au,Aa]) (by simp [Ay])) (Nat.zero_le _) ?_
       intro i hi
       have htk:(Bb p).take i=Bb (p.take i):=by simp [Bb]
       have w1:=wj1 (i:=i) (by omega)
       by_cases hle:i≤p.length
       ·have c1:((i:Int)≤(p.length:Int))=True:=eq_true (by omega)
        have gL1:=I7 p (p.take i) (by omega) (by rw [List.length_take];omega) npn (fun x hx=>npn x (List.mem_of_mem_take hx))
        have gL2:=I7 (p.take i) p (by rw [List.length_take];omega) (by omega) (fun x hx=>npn x (List.mem_of_mem_take hx)) npn
        rw [Fc,Lh] at gL1
        rw [Fc,Lg,Lh] at gL2
        skip
        (refine Ae hm _ _ _ ?_;simp only [go_sem,Nat.reduceLT,Nat.reduceEqDiff,↓reduceIte,Aq,htk,c1])
        (repeat' (first | (refine And.intro (by first | omega | exact Bp _ | (simp;done)) ?_)))
        (repeat' (first | (refine And.intro (Bp _) ?_)|(refine iteI (fun h=>?_) (fun h=>?_))|(refine Ak (by first | omega | (simp (disch:=omega) only [Aa,Ab,Ac] at *;omega)) ?_;intro b hb)|(refine And.intro (by first | omega | (simp (disch:=omega) only [Aa,Ab,Ac] at *;omega)) ?_)|((first | (refine Ah hm (by rfl) (by kernel_rfl) ?_)|(refine Det.use (gL1) ?_)|(refine Det.useQ (gL1) ?_)|(refine Ag.use (gL1) ?_)|(refine Ad.use (gL1) ?_)|(refine Det.use (gL2) ?_)|(refine Det.useQ (gL2) ?_)|(refine Ag.use (gL2) ?_)|(refine Ad.use (gL2) ?_));simp only [go_sem,Nat.reduceLT,Nat.reduceEqDiff,↓reduceIte,Aq,htk,w1,c1])|(exact True.intro)|(exfalso;omega)))
        exact ⟨i+1,by omega,by omega,(St.le_slots (by simp only [Ap,Ar,Ao,Aj,Af,Nat.reduceEqDiff,reduceIte,Nat.reduceLT,Nat.reduceLeDiff];simp (disch:=omega) [Af,Ai,Au,Aa] <;> (repeat' apply And.intro) <;> omega) (by simp (disch:=omega) [Az,A3,Aw,Am,Af,Ai,Au,Aa]) (by simp [Ay]))⟩
       ·have c1:((i:Int)≤(p.length:Int))=False:=eq_false (by omega)
        cases hs1:setT p t y0 with
        | error e1 =>
         have he1:=Hu hs1
         rw [hs1] at g1
         cases hs2:setT q t y1 with
         | error e2 =>
          rw [hs2] at g2
          unfold getR at g1 g2
          rcases he1 with rfl | rfl
          ·(refine Ae hm _ _ _ ?_;simp only [go_sem,Nat.reduceLT,Nat.reduceEqDiff,↓reduceIte,Aq,c1])
           (repeat' (first | (refine iteI (fun h=>?_) (fun h=>?_))|(refine Ak (by first | omega | (simp (disch:=omega) only [Aa,Ab,Ac] at *;omega)) ?_;intro b hb)|(refine And.intro (by first | omega | (simp (disch:=omega) only [Aa,Ab,Ac] at *;omega)) ?_)|((first | (refine Ah hm (by rfl) (by kernel_rfl) ?_)|(refine Det.use (gA) ?_)|(refine Det.useQ (gA) ?_)|(refine Ag.use (gA) ?_)|(refine Ad.use (gA) ?_)|(refine Det.use (gB) ?_)|(refine Det.useQ (gB) ?_)|(refine Ag.use (gB) ?_)|(refine Ad.use (gB) ?_)|(refine Det.use (g1) ?_)|(refine Det.useQ (g1) ?_)|(refine Ag.use (g1) ?_)|(refine Ad.use (g1) ?_)|(refine Det.use (g2) ?_)|(refine Det.useQ (g2) ?_)|(refine Ag.use (g2) ?_)|(refine Ad.use (g2) ?_)|(refine Det.use (Av) ?_)|(refine Det.useQ (Av) ?_));simp only [go_sem,Nat.reduceLT,Nat.reduceLeDiff,Nat.reduceEqDiff,Nat.reduceAdd,Nat.reduceMul,Int.reduceToNat,Int.reduceLE,↓reduceIte])|(exact True.intro)|(exfalso;omega)))
          ·(refine Ae hm _ _ _ ?_;simp only [go_sem,Nat.reduceLT,Nat.reduceEqDiff,↓reduceIte,Aq,c1])
           (repeat' (first | (refine iteI (fun h=>?_) (fun h=>?_))|(refine Ak (by first | omega | (simp (disch:=omega) only [Aa,Ab,Ac] at *;omega)) ?_;intro b hb)|(refine And.intro (by first | omega | (simp (disch:=omega) only [Aa,Ab,Ac] at *;omega)) ?_)|((first | (refine Ah hm (by rfl) (by kernel_rfl) ?_)|(refine Det.use (gA) ?_)|(refine Det.useQ (gA) ?_)|(refine Ag.use (gA) ?_)|(refine Ad.use (gA) ?_)|(refine Det.use (gB) ?_)|(refine Det.useQ (gB) ?_)|(refine Ag.use (gB) ?_)|(refine Ad.use (gB) ?_)|(refine Det.use (g1) ?_)|(refine Det.useQ (g1) ?_)|(refine Ag.use (g1) ?_)|(refine Ad.use (g1) ?_)|(refine Det.use (g2) ?_)|(refine Det.useQ (g2) ?_)|(refine Ag.use (g2) ?_)|(refine Ad.use (g2) ?_)|(refine Det.use (Av) ?_)|(refine Det.useQ (Av) ?_));simp only [go_sem,Nat.reduceLT,Nat.reduceLeDiff,Nat.reduceEqDiff,Nat.reduceAdd,Nat.reduceMul,Int.reduceToNat,Int.reduceLE,↓reduceIte])|(exact True.intro)|(exfalso;omega)))
         | ok b =>
          rw [hs2] at g2
          unfold getR at g1 g2
          rcases he1 with rfl | rfl
          ·(refine Ae hm _ _ _ ?_;simp only [go_sem,Nat.reduceLT,Nat.reduceEqDiff,↓reduceIte,Aq,c1])
           (repeat' (first | (refine iteI (fun h=>?_) (fun h=>?_))|(refine Ak (by first | omega | (simp (disch:=omega) only [Aa,Ab,Ac] at *;omega)) ?_;intro b hb)|(refine And.intro (by first | omega | (simp (disch:=omega) only [Aa,Ab,Ac] at *;omega)) ?_)|((first | (refine Ah hm (by rfl) (by kernel_rfl) ?_)|(refine Det.use (gA) ?_)|(refine Det.useQ (gA) ?_)|(refine Ag.use (gA) ?_)|(refine Ad.use (gA) ?_)|(refine Det.use (gB) ?_)|(refine Det.useQ (gB) ?_)|(refine Ag.use (gB) ?_)|(refine Ad.use (gB) ?_)|(refine Det.use (g1) ?_)|(refine Det.useQ (g1) ?_)|(refine Ag.use (g1) ?_)|(refine Ad.use (g1) ?_)|(refine Det.use (g2) ?_)|(refine Det.useQ (g2) ?_)|(refine Ag.use (g2) ?_)|(refine Ad.use (g2) ?_)|(refine Det.use (Av) ?_)|(refine Det.useQ (Av) ?_));simp only [go_sem,Nat.reduceLT,Nat.reduceLeDiff,Nat.reduceEqDiff,Nat.reduceAdd,Nat.reduceMul,Int.reduceToNat,Int.reduceLE,↓reduceIte])|(exact True.intro)|(exfalso;omega)))
          ·(refine Ae hm _ _ _ ?_;simp only [go_sem,Nat.reduceLT,Nat.reduceEqDiff,↓reduceIte,Aq,c1])
           (repeat' (first | (refine iteI (fun h=>?_) (fun h=>?_))|(refine Ak (by first | omega | (simp (disch:=omega) only [Aa,Ab,Ac] at *;omega)) ?_;intro b hb)|(refine And.intro (by first | omega | (simp (disch:=omega) only [Aa,Ab,Ac] at *;omega)) ?_)|((first | (refine Ah hm (by rfl) (by kernel_rfl) ?_)|(refine Det.use (gA) ?_)|(refine Det.useQ (gA) ?_)|(refine Ag.use (gA) ?_)|(refine Ad.use (gA) ?_)|(refine Det.use (gB) ?_)|(refine Det.useQ (gB) ?_)|(refine Ag.use (gB) ?_)|(refine Ad.use (gB) ?_)|(refine Det.use (g1) ?_)|(refine Det.useQ (g1) ?_)|(refine Ag.use (g1) ?_)|(refine Ad.use (g1) ?_)|(refine Det.use (g2) ?_)|(refine Det.useQ (g2) ?_)|(refine Ag.use (g2) ?_)|(refine Ad.use (g2) ?_)|(refine Det.use (Av) ?_)|(refine Det.useQ (Av) ?_));simp only [go_sem,Nat.reduceLT,Nat.reduceLeDiff,Nat.reduceEqDiff,Nat.reduceAdd,Nat.reduceMul,Int.reduceToNat,Int.reduceLE,↓reduceIte])|(exact True.intro)|(exfalso;omega)))
        | ok a =>
         rw [hs1] at g1
         obtain ⟨_,_,_,_,hao,_,hal⟩:=Kg ht hy0 hs1
         cases hs2:setT q t y1 with
         | error e2 =>
          have he2:=Hu hs2
          rw [hs2] at g2
          unfold getR at g1 g2
          rcases he2 with rfl | rfl
          ·(refine Ae hm _ _ _ ?_;simp only [go_sem,Nat.reduceLT,Nat.reduceEqDiff,↓reduceIte,Aq,c1])
           (repeat' (first | (refine iteI (fun h=>?_) (fun h=>?_))|(refine Ak (by first | omega | (simp (disch:=omega) only [Aa,Ab,Ac] at *;omega)) ?_;intro b hb)|(refine And.intro (by first | omega | (simp (disch:=omega) only [Aa,Ab,Ac] at *;omega)) ?_)|((first | (refine Ah hm (by rfl) (by kernel_rfl) ?_)|(refine Det.use (gA) ?_)|(refine Det.useQ (gA) ?_)|(refine Ag.use (gA) ?_)|(refine Ad.use (gA) ?_)|(refine Det.use (gB) ?_)|(refine Det.useQ (gB) ?_)|(refine Ag.use (gB) ?_)|(refine Ad.use (gB) ?_)|(refine Det.use (g1) ?_)|(refine Det.useQ (g1) ?_)|(refine Ag.use (g1) ?_)|(refine Ad.use (g1) ?_)|(refine Det.use (g2) ?_)|(refine Det.useQ (g2) ?_)|(refine Ag.use (g2) ?_)|(refine Ad.use (g2) ?_)|(refine Det.use (Av) ?_)|(refine Det.useQ (Av) ?_));simp only [go_sem,Nat.reduceLT,Nat.reduceLeDiff,Nat.reduceEqDiff,Nat.reduceAdd,Nat.reduceMul,Int.reduceToNat,Int.reduceLE,↓reduceIte])|(exact True.intro)|(exfalso;omega)))
          ·(refine Ae hm _ _ _ ?_;simp only [go_sem,Nat.reduceLT,Nat.reduceEqDiff,↓reduceIte,Aq,c1])
           (repeat' (first | (refine iteI (fun h=>?_) (fun h=>?_))|(refine Ak (by first | omega | (simp (disch:=omega) only [Aa,Ab,Ac] at *;omega)) ?_;intro b hb)|(refine And.intro (by first | omega | (simp (disch:=omega) only [Aa,Ab,Ac] at *;omega)) ?_)|((first | (refine Ah hm (by rfl) (by kernel_rfl) ?_)|(refine Det.use (gA) ?_)|(refine Det.useQ (gA) ?_)|(refine Ag.use (gA) ?_)|(refine Ad.use (gA) ?_)|(refine Det.use (gB) ?_)|(refine Det.useQ (gB) ?_)|(refine Ag.use (gB) ?_)|(refine Ad.use (gB) ?_)|(refine Det.use (g1) ?_)|(refine Det.useQ (g1) ?_)|(refine Ag.use (g1) ?_)|(refine Ad.use (g1) ?_)|(refine Det.use (g2) ?_)|(refine Det.useQ (g2) ?_)|(refine Ag.use (g2) ?_)|(refine Ad.use (g2) ?_)|(refine Det.use (Av) ?_)|(refine Det.useQ (Av) ?_));simp only [go_sem,Nat.reduceLT,Nat.reduceLeDiff,Nat.reduceEqDiff,Nat.reduceAdd,Nat.reduceMul,Int.reduceToNat,Int.reduceLE,↓reduceIte])|(exact True.intro)|(exfalso;omega)))
         | ok b =>
          rw [hs2] at g2
          obtain ⟨_,_,_,_,hbo,_,hbl⟩:=Kg ht hy1 hs2
          unfold getR at g1 g2
          cases hap:B7 p q with
          | false =>
           rw [hap] at gA gB
           (refine Ae hm _ _ _ ?_;simp only [go_sem,Nat.reduceLT,Nat.reduceEqDiff,↓reduceIte,Aq,c1])
           (repeat' (first | (refine iteI (fun h=>?_) (fun h=>?_))|(refine Ak (by first | omega | (simp (disch:=omega) only [Aa,Ab,Ac] at *;omega)) ?_;intro b hb)|(refine And.intro (by first | omega | (simp (disch:=omega) only [Aa,Ab,Ac] at *;omega)) ?_)|((first | (refine Ah hm (by rfl) (by kernel_rfl) ?_)|(refine Det.use (gA) ?_)|(refine Det.useQ (gA) ?_)|(refine Ag.use (gA) ?_)|(refine Ad.use (gA) ?_)|(refine Det.use (gB) ?_)|(refine Det.useQ (gB) ?_)|(refine Ag.use (gB) ?_)|(refine Ad.use (gB) ?_)|(refine Det.use (g1) ?_)|(refine Det.useQ (g1) ?_)|(refine Ag.use (g1) ?_)|(refine Ad.use (g1) ?_)|(refine Det.use (g2) ?_)|(refine Det.useQ (g2) ?_)|(refine Ag.use (g2) ?_)|(refine Ad.use (g2) ?_)|(refine Det.use (Av) ?_)|(refine Det.useQ (Av) ?_));simp only [go_sem,Nat.reduceLT,Nat.reduceLeDiff,Nat.reduceEqDiff,Nat.reduceAdd,Nat.reduceMul,Int.reduceToNat,Int.reduceLE,↓reduceIte])|(exact True.intro)|(exfalso;omega)))
          | true =>
           rw [hap] at gA gB
           obtain ⟨c,hc1,hc2⟩:=set_comm ht hy0 hy1 op.2 oq.2 hap hs1 hs2
           obtain ⟨_,_,_,_,_,_,hcl⟩:=Kg hao hy1 hc1
           have g3:=L8 q a y1 (by omega) oq.2 hao hy1 (by omega)
           have g4:=L8 p b y0 (by omega) op.2 hbo hy0 (by omega)
           rw [hc1] at g3
           rw [hc2] at g4
           unfold getR at g3 g4
           have s1:=E2 (c.enc []) (c.enc []) (by omega) (by omega)
           rw [decide_eq_true rfl] at s1
           (refine Ae hm _ _ _ ?_;simp only [go_sem,Nat.reduceLT,Nat.reduceEqDiff,↓reduceIte,Aq,c1])
           (repeat' (first | (refine iteI (fun h=>?_) (fun h=>?_))|(refine Ak (by first | omega | (simp (disch:=omega) only [Aa,Ab,Ac] at *;omega)) ?_;intro b hb)|(refine And.intro (by first | omega | (simp (disch:=omega) only [Aa,Ab,Ac] at *;omega)) ?_)|((first | (refine Ah hm (by rfl) (by kernel_rfl) ?_)|(refine Det.use (gA) ?_)|(refine Det.useQ (gA) ?_)|(refine Ag.use (gA) ?_)|(refine Ad.use (gA) ?_)|(refine Det.use (gB) ?_)|(refine Det.useQ (gB) ?_)|(refine Ag.use (gB) ?_)|(refine Ad.use (gB) ?_)|(refine Det.use (g1) ?_)|(refine Det.useQ (g1) ?_)|(refine Ag.use (g1) ?_)|(refine Ad.use (g1) ?_)|(refine Det.use (g2) ?_)|(refine Det.useQ (g2) ?_)|(refine Ag.use (g2) ?_)|(refine Ad.use (g2) ?_)|(refine Det.use (g3) ?_)|(refine Det.useQ (g3) ?_)|(refine Ag.use (g3) ?_)|(refine Ad.use (g3) ?_)|(refine Det.use (g4) ?_)|(refine Det.useQ (g4) ?_)|(refine Ag.use (g4) ?_)|(refine Ad.use (g4) ?_)|(refine Det.use (s1) ?_)|(refine Det.useQ (s1) ?_)|(refine Ag.use (s1) ?_)|(refine Ad.use (s1) ?_)|(refine Det.use (Av) ?_)|(refine Det.useQ (Av) ?_));simp only [go_sem,Nat.reduceLT,Nat.reduceLeDiff,Nat.reduceEqDiff,Nat.reduceAdd,Nat.reduceMul,Int.reduceToNat,Int.reduceLE,↓reduceIte])|(exact True.intro)|(exfalso;omega)))
    ·rw [decide_eq_false oq] at hOq
     (refine Al.of_code (X:=cx) false [] (by simp) Tryz.func7 (by kernel_rfl) rfl (by simp only [List.length_cons,List.length_nil,Tryz.ntmps7];decide) (by simp) ?_;refine Ae hm _ _ _ ?_;simp only [Tryz.ntmps7,Tryz.results7,go_sem,Nat.reduceLT,Nat.reduceLeDiff,Nat.reduceEqDiff,Nat.reduceAdd,Nat.reduceSub,Nat.reduceMul,Nat.reduceBEq,Int.reduceToNat,Int.reduceLT,Int.reduceLE,Int.reduceEq,Int.reduceAdd,Int.reduceSub,Int.reduceNeg,↓reduceIte,reduceCtorEq,Aq,if_true,if_false,htk,w1,c1])
     (repeat' (first | (refine iteI (fun h=>?_) (fun h=>?_))|(refine Ak (by first | omega | (simp (disch:=omega) only [Aa,Ab,Ac] at *;omega)) ?_;intro b hb)|(refine And.intro (by first | omega | (simp (disch:=omega) only [Aa,Ab,Ac] at *;omega)) ?_)|((first | (refine Ah hm (by rfl) (by kernel_rfl) ?_)|(refine Det.use (hFp) ?_)|(refine Det.useQ (hFp) ?_)|(refine Ag.use (hFp) ?_)|(refine Ad.use (hFp) ?_)|(refine Det.use (hFq) ?_)|(refine Det.useQ (hFq) ?_)|(refine Ag.use (hFq) ?_)|(refine Ad.use (hFq) ?_)|(refine Det.use (hOp) ?_)|(refine Det.useQ (hOp) ?_)|(refine Ag.use (hOp) ?_)|(refine Ad.use (hOp) ?_)|(refine Det.use (hOq) ?_)|(refine Det.useQ (hOq) ?_)|(refine Ag.use (hOq) ?_)|(refine Ad.use (hOq) ?_)|(refine Det.use (Av) ?_)|(refine Det.useQ (Av) ?_));simp only [go_sem,Nat.reduceLT,Nat.reduceEqDiff,Nat.reduceMul,Int.reduceToNat,Int.reduceLE,↓reduceIte])|(exact True.intro)|(exfalso;omega)))
   ·rw [decide_eq_false op] at hOp
    (refine Al.of_code (X:=cx) false [] (by simp) Tryz.func7 (by kernel_rfl) rfl (by simp only [List.length_cons,List.length_nil,Tryz.ntmps7];decide) (by simp) ?_;refine Ae hm _ _ _ ?_;simp only [Tryz.ntmps7,Tryz.results7,go_sem,Nat.reduceLT,Nat.reduceLeDiff,Nat.reduceEqDiff,Nat.reduceAdd,Nat.reduceSub,Nat.reduceMul,Nat.reduceBEq,Int.reduceToNat,Int.reduceLT,Int.reduceLE,Int.reduceEq,Int.reduceAdd,Int.reduceSub,Int.reduceNeg,↓reduceIte,reduceCtorEq,Aq,if_true,if_false,htk,w1,c1])
    (repeat' (first | (refine iteI (fun h=>?_) (fun h=>?_))|(refine Ak (by first | omega | (simp (disch:=omega) only [Aa,Ab,Ac] at *;omega)) ?_;intro b hb)|(refine And.intro (by first | omega | (simp (disch:=omega) only [Aa,Ab,Ac] at *;omega)) ?_)|((first | (refine Ah hm (by rfl) (by kernel_rfl) ?_)|(refine Det.use (hFp) ?_)|(refine Det.useQ (hFp) ?_)|(refine Ag.use (hFp) ?_)|(refine Ad.use (hFp) ?_)|(refine Det.use (hFq) ?_)|(refine Det.useQ (hFq) ?_)|(refine Ag.use (hFq) ?_)|(refine Ad.use (hFq) ?_)|(refine Det.use (hOp) ?_)|(refine Det.useQ (hOp) ?_)|(refine Ag.use (hOp) ?_)|(refine Ad.use (hOp) ?_)|(refine Det.use (Av) ?_)|(refine Det.useQ (Av) ?_));simp only [go_sem,Nat.reduceLT,Nat.reduceEqDiff,Nat.reduceMul,Int.reduceToNat,Int.reduceLE,↓reduceIte])|(exact True.intro)|(exfalso;omega)))
  ·rw [decide_eq_false fq] at hFq
   (refine Al.of_code (X:=cx) false [] (by simp) Tryz.func7 (by kernel_rfl) rfl (by simp only [List.length_cons,List.length_nil,Tryz.ntmps7];decide) (by simp) ?_;refine Ae hm _ _ _ ?_;simp only [Tryz.ntmps7,Tryz.results7,go_sem,Nat.reduceLT,Nat.reduceLeDiff,Nat.reduceEqDiff,Nat.reduceAdd,Nat.reduceSub,Nat.reduceMul,Nat.reduceBEq,Int.reduceToNat,Int.reduceLT,Int.reduceLE,Int.reduceEq,Int.reduceAdd,Int.reduceSub,Int.reduceNeg,↓reduceIte,reduceCtorEq,Aq,if_true,if_false,htk,w1,c1])
   (repeat' (first | (refine iteI (fun h=>?_) (fun h=>?_))|(refine Ak (by first | omega | (simp (disch:=omega) only [Aa,Ab,Ac] at *;omega)) ?_;intro b hb)|(refine And.intro (by first | omega | (simp (disch:=omega) only [Aa,Ab,Ac] at *;omega)) ?_)|((first | (refine Ah hm (by rfl) (by kernel_rfl) ?_)|(refine Det.use (hFp) ?_)|(refine Det.useQ (hFp) ?_)|(refine Ag.use (hFp) ?_)|(refine Ad.use (hFp) ?_)|(refine Det.use (hFq) ?_)|(refine Det.useQ (hFq) ?_)|(refine Ag.use (hFq) ?_)|(refine Ad.use (hFq) ?_)|(refine Det.use (Av) ?_)|(refine Det.useQ (Av) ?_));simp only [go_sem,Nat.reduceLT,Nat.reduceEqDiff,Nat.reduceMul,Int.reduceToNat,Int.reduceLE,↓reduceIte])|(exact True.intro)|(exfalso;omega)))
 ·rw [decide_eq_false fp] at hFp
  (refine Al.of_code (X:=cx) false [] (by simp) Tryz.func7 (by kernel_rfl) rfl (by simp only [List.length_cons,List.length_nil,Tryz.ntmps7];decide) (by simp) ?_;refine Ae hm _ _ _ ?_;simp only [Tryz.ntmps7,Tryz.results7,go_sem,Nat.reduceLT,Nat.reduceLeDiff,Nat.reduceEqDiff,Nat.reduceAdd,Nat.reduceSub,Nat.reduceMul,Nat.reduceBEq,Int.reduceToNat,Int.reduceLT,Int.reduceLE,Int.reduceEq,Int.reduceAdd,Int.reduceSub,Int.reduceNeg,↓reduceIte,reduceCtorEq,Aq,if_true,if_false,htk,w1,c1])
  (repeat' (first | (refine iteI (fun h=>?_) (fun h=>?_))|(refine Ak (by first | omega | (simp (disch:=omega) only [Aa,Ab,Ac] at *;omega)) ?_;intro b hb)|(refine And.intro (by first | omega | (simp (disch:=omega) only [Aa,Ab,Ac] at *;omega)) ?_)|((first | (refine Ah hm (by rfl) (by kernel_rfl) ?_)|(refine Det.use (hFp) ?_)|(refine Det.useQ (hFp) ?_)|(refine Ag.use (hFp) ?_)|(refine Ad.use (hFp) ?_)|(refine Det.use (Av) ?_)|(refine Det.useQ (Av) ?_));simp only [go_sem,Nat.reduceLT,Nat.reduceEqDiff,Nat.reduceMul,Int.reduceToNat,Int.reduceLE,↓reduceIte])|(exact True.intro)|(exfalso;omega)))
end Go.LX
