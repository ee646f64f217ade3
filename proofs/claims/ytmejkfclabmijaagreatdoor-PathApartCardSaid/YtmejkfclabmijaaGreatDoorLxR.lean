/- Paths: steps; which are right. -/
import Derived.Test.YtmejkfclabmijaaGreatDoorLxQ
set_option linter.unusedSimpArgs false
set_option linter.unusedVariables false
set_option linter.unusedSectionVars false
set_option linter.unnecessarySimpa false
set_option maxRecDepth 100000
set_option maxHeartbeats 2000000
namespace Go.LX
open Go Go.RowKit Go.Proofs
attribute [local irreducible] Al SWP Bi
structure Step where
 part:Bool
 name:List UInt8
 n:Int
def Step.cells (x:Step):List PV:=[.bool x.part,.str x.name,.int .i64 x.n]
def Bb (p:List Step):List (List PV):=p.map Step.cells
@[simp] theorem Aq (p:List Step):(Bb p).length=p.length:=by simp [Bb]
theorem Dk {p:List Step} {i:Nat} {x:Step} (h:p[i]? = some x):(Bb p)[i]? = some [.bool x.part,.str x.name,.int .i64 x.n]:=by
 simp [Bb,h,Step.cells]
def Bc (x:Step):Prop:=if x.part=true then x.name=[]∧0≤x.n∧x.n≤1000000 else x.n=0∧valid x.name=true
instance (x:Step):Decidable (Bc x):=by unfold Bc;exact inferInstance
def E9 (p:List Step):Prop:=p.length≤20∧∀ x∈p,Bc x
def fewP (p:List Step):Prop:=p.length≤31∧∀ x∈p,x.name.length≤100
instance (p:List Step):Decidable (E9 p):=inferInstanceAs (Decidable (_∧_))
instance (p:List Step):Decidable (fewP p):=inferInstanceAs (Decidable (_∧_))
theorem Pe (p:List Step) (hp:p.length≤140737488355328) (hn:∀ x∈p,x.name.length≤140737488355328):Det cx 14 [.p (.sl (Bb p))] [] (.p (.bool (decide (fewP p)))) []:=by
 (refine Al.of_code (X:=cx) false [] (by simp) Tryz.func14 (by kernel_rfl) rfl (by simp only [List.length_cons,List.length_nil,Tryz.ntmps14];decide) (by simp) ?_;refine Ae hm _ _ _ ?_;simp only [Tryz.ntmps14,Tryz.results14,go_sem,Nat.reduceLT,Nat.reduceLeDiff,Nat.reduceEqDiff,Nat.reduceAdd,Nat.reduceSub,Nat.reduceMul,Nat.reduceBEq,Int.reduceToNat,Int.reduceLT,Int.reduceLE,Int.reduceEq,Int.reduceAdd,Int.reduceSub,Int.reduceNeg,↓reduceIte,reduceCtorEq])
 refine SWP.loop (fun i:Nat=>⟨Ba 21 [(0,.p (.sl (Bb p))),(3,.p (.int .i64 i))],[]⟩) (fun i=>i≤p.length∧i≤31∧∀ x∈p.take i,x.name.length≤100) (fun i=>p.length - i) 0 (St.le_slots (by simp only [Ap,Ar,Ao,Aj,Af,Nat.reduceEqDiff,reduceIte,Nat.reduceLT,Nat.reduceLeDiff];simp (disch:=omega) [Af,Ai,Au,Aa] <;> (repeat' apply And.intro) <;> omega) (by simp (disch:=omega) [Az,A3,Aw,Am,Af,Ai,Au,Aa]) (by simp [Ay])) ⟨Nat.zero_le _,Nat.zero_le _,by simp⟩ ?_
 rintro i ⟨h1,h2,h3⟩
 by_cases hi:¬ i<p.length
 ·have hc:((i:Int)<(p.length:Int))=False:=eq_false (by omega)
  skip
  (refine Ae hm _ _ _ ?_;simp only [go_sem,Nat.reduceLT,Nat.reduceEqDiff,↓reduceIte,reduceCtorEq,Aq,hc])
  refine (decide_eq_true ?_).symm
  rw [List.take_of_length_le (by omega)] at h3
  exact ⟨by omega,h3⟩
 ·have hi:=Decidable.not_not.1 hi
  obtain ⟨x,hx⟩:∃ x,p[i]? = some x:=⟨_,List.getElem?_eq_getElem hi⟩
  have hg:=Dk hx
  have hc:((i:Int)<(p.length:Int))=True:=eq_true (by omega)
  skip
  (refine Ae hm _ _ _ ?_;simp only [go_sem,Nat.reduceLT,Nat.reduceLeDiff,Nat.reduceEqDiff,Nat.reduceAdd,↓reduceIte,reduceCtorEq,Aq,hc,hg,Aq,wi1 (i:=i) (by omega)])
  (repeat' (first | (refine iteI (fun h=>?_) (fun h=>?_))|(refine Ak (by first | omega | (simp (disch:=omega) only [Aa,Ab,Ac] at *;omega)) ?_;intro b hb)|(refine And.intro (by first | omega | (simp (disch:=omega) only [Aa,Ab,Ac] at *;omega)) ?_)|((first | (refine Ah hm (by rfl) (by kernel_rfl) ?_));simp only [go_sem])|(exact True.intro)|(exfalso;omega)))
  ·refine (decide_eq_false fun h=>?_).symm
   have:=h.1
   omega
  ·refine (decide_eq_false fun h=>?_).symm
   have:=h.2 x (List.mem_of_getElem? hx)
   omega
  ·refine ⟨i+1,⟨by omega,by omega,fun y hy=>?_⟩,by omega,(St.le_slots (by simp only [Ap,Ar,Ao,Aj,Af,Nat.reduceEqDiff,reduceIte,Nat.reduceLT,Nat.reduceLeDiff];simp (disch:=omega) [Af,Ai,Au,Aa] <;> (repeat' apply And.intro) <;> omega) (by simp (disch:=omega) [Az,A3,Aw,Am,Af,Ai,Au,Aa]) (by simp [Ay]))⟩
   rw [List.take_add_one,hx] at hy
   rcases List.mem_append.1 hy with hy | hy
   ·exact h3 y hy
   ·simp at hy;subst hy;omega
theorem Jcw (x:Step) (hx:x.name.length≤9223372036854775807):Det cx 51 [.p (.agg [.bool x.part,.str x.name,.int .i64 x.n])] [] (.p (.bool (!decide (Bc x)))) []:=by
 cases hp:x.part
 ·(refine Al.of_code (X:=cx) false [] (by simp) Tryz.func51 (by kernel_rfl) rfl (by simp only [List.length_cons,List.length_nil,Tryz.ntmps51];decide) (by simp) ?_;refine Ae hm _ _ _ ?_;simp only [Tryz.ntmps51,Tryz.results51,go_sem,Nat.reduceLT,Nat.reduceLeDiff,Nat.reduceEqDiff,Nat.reduceAdd,Nat.reduceSub,Nat.reduceMul,Nat.reduceBEq,Int.reduceToNat,Int.reduceLT,Int.reduceLE,Int.reduceEq,Int.reduceAdd,Int.reduceSub,Int.reduceNeg,↓reduceIte,reduceCtorEq])
  (repeat' (first | (refine iteI (fun h=>?_) (fun h=>?_))|(refine Ak (by first | omega | (simp (disch:=omega) only [Aa,Ab,Ac] at *;omega)) ?_;intro b hb)|(refine And.intro (by first | omega | (simp (disch:=omega) only [Aa,Ab,Ac] at *;omega)) ?_)|((first | (refine Ah hm (by rfl) (by kernel_rfl) ?_)|(refine Det.use (Fi _ hx) ?_)|(refine Det.useQ (Fi _ hx) ?_));simp only [go_sem,Nat.reduceLT,Nat.reduceEqDiff,↓reduceIte])|(exact True.intro)|(exfalso;omega)))
  ·rw [decide_eq_false (fun h=>by unfold Bc at h;rw [hp,if_neg (by simp)] at h;exact absurd h.1 (by assumption))];rfl
  ·have hn0:x.n=0:=Decidable.not_not.1 (by assumption)
   cases hv:valid x.name
   ·rw [decide_eq_false (fun h=>by unfold Bc at h;rw [hp,if_neg (by simp),hv] at h;cases h.2)];rfl
   ·rw [decide_eq_true (by unfold Bc;rw [hp,if_neg (by simp)];exact ⟨hn0,hv⟩)];rfl
 ·(refine Al.of_code (X:=cx) false [] (by simp) Tryz.func51 (by kernel_rfl) rfl (by simp only [List.length_cons,List.length_nil,Tryz.ntmps51];decide) (by simp) ?_;refine Ae hm _ _ _ ?_;simp only [Tryz.ntmps51,Tryz.results51,go_sem,Nat.reduceLT,Nat.reduceLeDiff,Nat.reduceEqDiff,Nat.reduceAdd,Nat.reduceSub,Nat.reduceMul,Nat.reduceBEq,Int.reduceToNat,Int.reduceLT,Int.reduceLE,Int.reduceEq,Int.reduceAdd,Int.reduceSub,Int.reduceNeg,↓reduceIte,reduceCtorEq])
  (repeat' (first | (refine iteI (fun h=>?_) (fun h=>?_))|(refine Ak (by first | omega | (simp (disch:=omega) only [Aa,Ab,Ac] at *;omega)) ?_;intro b hb)|(refine And.intro (by first | omega | (simp (disch:=omega) only [Aa,Ab,Ac] at *;omega)) ?_)|((first | (refine Ah hm (by rfl) (by kernel_rfl) ?_)|(refine Det.use (Fi _ hx) ?_)|(refine Det.useQ (Fi _ hx) ?_));simp only [go_sem])|(exact True.intro)|(exfalso;omega)))
  ·rw [decide_eq_false (fun h=>by unfold Bc at h;rw [hp,if_pos rfl] at h;have e:x.name.length=0:=(by rw [h.1];rfl);omega)];rfl
  ·rw [decide_eq_false (fun h=>by unfold Bc at h;rw [hp,if_pos rfl] at h;omega)];rfl
  ·have hn0:x.name=[]:=List.eq_nil_of_length_eq_zero (by omega)
   by_cases hb:1000000<x.n
   ·rw [decide_eq_true hb,decide_eq_false (fun h=>by unfold Bc at h;rw [hp,if_pos rfl] at h;omega)];rfl
   ·rw [decide_eq_false hb,decide_eq_true (by unfold Bc;rw [hp,if_pos rfl];exact ⟨hn0,by omega,by omega⟩)];rfl
def Ju (p:List Step):Nat→Nat→Int
 | 0,_=>-1
 | f+1,i=>match p[i]? with
  | some x=>if Bc x then Ju p f (i+1) else i
  | none=>-1
theorem Mb (p:List Step) (hp:p.length≤1000000) (hx:∀ x∈p,x.name.length≤9223372036854775807):Det cx 116 [.p (.sl (Bb p)),.fn 51 []] [] (.p (.int .i64 (Ju p (p.length+1) 0))) []:=by
 (refine Al.of_code (X:=cx) false [] (by simp) Tryz.func116 (by kernel_rfl) rfl (by simp only [List.length_cons,List.length_nil,Tryz.ntmps116];decide) (by simp) ?_;refine Ae hm _ _ _ ?_;simp only [Tryz.ntmps116,Tryz.results116,go_sem,Nat.reduceLT,Nat.reduceLeDiff,Nat.reduceEqDiff,Nat.reduceAdd,Nat.reduceSub,Nat.reduceMul,Nat.reduceBEq,Int.reduceToNat,Int.reduceLT,Int.reduceLE,Int.reduceEq,Int.reduceAdd,Int.reduceSub,Int.reduceNeg,↓reduceIte,reduceCtorEq])
 refine SWP.loop (fun x:Nat×Nat=>⟨Ba 19 [(0,.p (.sl (Bb p))),(1,.fn 51 []),(7,.p (.int .i64 p.length)),(8,.p (.int .i64 x.1))],[]⟩) (fun x=>x.1≤p.length∧p.length+1≤x.1+x.2∧Ju p x.2 x.1=Ju p (p.length+1) 0) (fun x=>p.length - x.1) (0,p.length+1) (by simp only [Aq];exact (St.le_slots (by simp only [Ap,Ar,Ao,Aj,Af,Nat.reduceEqDiff,reduceIte,Nat.reduceLT,Nat.reduceLeDiff];simp (disch:=omega) [Af,Ai,Au,Aa] <;> (repeat' apply And.intro) <;> omega) (by simp (disch:=omega) [Az,A3,Aw,Am,Af,Ai,Au,Aa]) (by simp [Ay]))) ⟨Nat.zero_le _,by simp,rfl⟩ ?_
 rintro ⟨i,f⟩ ⟨h1,h2,h3⟩
 simp only at h1 h2 h3
 obtain ⟨g,rfl⟩:∃ g,f=g+1:=⟨f - 1,by omega⟩
 rw [Ju] at h3
 by_cases hi:¬ i<p.length
 ·have hc:((i:Int)<(p.length:Int))=False:=eq_false (by omega)
  rw [List.getElem?_eq_none (by omega)] at h3
  skip
  (refine Ae hm _ _ _ ?_;simp only [go_sem,Nat.reduceLT,Nat.reduceEqDiff,Int.reduceNeg,↓reduceIte,reduceCtorEq,hc])
  rw [← h3]
 ·have hi:=Decidable.not_not.1 hi
  obtain ⟨x,hxi⟩:∃ x,p[i]? = some x:=⟨_,List.getElem?_eq_getElem hi⟩
  have hg:=Dk hxi
  have hc:((i:Int)<(p.length:Int))=True:=eq_true (by omega)
  rw [hxi] at h3
  simp only at h3
  skip
  (refine Ae hm _ _ _ ?_;simp only [go_sem,Nat.reduceLT,Nat.reduceLeDiff,Nat.reduceEqDiff,Nat.reduceAdd,Int.reduceNeg,↓reduceIte,reduceCtorEq,hc,hg,wi1 (i:=i) (by omega)])
  (repeat' (first | (refine iteI (fun h=>?_) (fun h=>?_))|(refine Ak (by first | omega | (simp (disch:=omega) only [Aa,Ab,Ac] at *;omega)) ?_;intro b hb)|(refine And.intro (by first | omega | (simp (disch:=omega) only [Aa,Ab,Ac] at *;omega)) ?_)|((first | (refine Ah hm (by rfl) (by kernel_rfl) ?_)|(refine Det.use (Jcw x (hx x (List.mem_of_getElem? hxi))) ?_)|(refine Det.useQ (Jcw x (hx x (List.mem_of_getElem? hxi))) ?_));simp only [go_sem,Nat.reduceLT,Nat.reduceEqDiff,Int.reduceNeg,↓reduceIte,reduceCtorEq,wi1 (i:=i) (by omega)])|(exact True.intro)|(exfalso;omega)))
  ·rw [if_neg (by assumption)] at h3
   rw [h3]
  ·rw [if_pos (by first | assumption | exact Decidable.not_not.1 (by assumption))] at h3
   exact ⟨(i+1,g),⟨by simp only;omega,by simp only;omega,h3⟩,by simp only;omega,(St.le_slots (by simp only [Ap,Ar,Ao,Aj,Af,Nat.reduceEqDiff,reduceIte,Nat.reduceLT,Nat.reduceLeDiff];simp (disch:=omega) [Af,Ai,Au,Aa] <;> (repeat' apply And.intro) <;> omega) (by simp (disch:=omega) [Az,A3,Aw,Am,Af,Ai,Au,Aa]) (by simp [Ay]))⟩
theorem R3 {p:List Step}:∀ (f i:Nat),p.length+1≤i+f→i≤p.length→(Ju p f i<0 ↔ ∀ x∈p.drop i,Bc x)
 | 0,i,h,hi=>by omega
 | f+1,i,h,hi=>by
  rw [Ju]
  by_cases hl:i<p.length
  ·rw [List.getElem?_eq_getElem hl,List.drop_eq_getElem_cons hl]
   simp only
   by_cases hs:Bc p[i]
   ·rw [if_pos hs,R3 f (i+1) (by omega) (by omega)]
    exact ⟨fun h x hx=>(List.mem_cons.1 hx).elim (fun e=>e ▸ hs) (h x),fun h x hx=>h x (List.mem_cons_of_mem _ hx)⟩
   ·rw [if_neg hs]
    constructor
    ·intro h;omega
    ·intro h;exact absurd (h _ List.mem_cons_self) hs
  ·rw [List.getElem?_eq_none (by omega),List.drop_eq_nil_of_le (by omega)]
   simp
theorem Es (p:List Step) (hp:p.length≤1000000) (hx:∀ x∈p,x.name.length≤9223372036854775807):Det cx 53 [.p (.sl (Bb p)),.fn 51 []] [] (.p (.bool (!decide (∀ x∈p,Bc x)))) []:=by
 have hw:=R3 (p:=p) (p.length+1) 0 (by omega) (Nat.zero_le _)
 rw [List.drop_zero] at hw
 (refine Al.of_code (X:=cx) false [] (by simp) Tryz.func53 (by kernel_rfl) rfl (by simp only [List.length_cons,List.length_nil,Tryz.ntmps53];decide) (by simp) ?_;refine Ae hm _ _ _ ?_;simp only [Tryz.ntmps53,Tryz.results53,go_sem,Nat.reduceLT,Nat.reduceLeDiff,Nat.reduceEqDiff,Nat.reduceAdd,Nat.reduceSub,Nat.reduceMul,Nat.reduceBEq,Int.reduceToNat,Int.reduceLT,Int.reduceLE,Int.reduceEq,Int.reduceAdd,Int.reduceSub,Int.reduceNeg,↓reduceIte,reduceCtorEq])
 (repeat' (first | (refine iteI (fun h=>?_) (fun h=>?_))|(refine Ak (by first | omega | (simp (disch:=omega) only [Aa,Ab,Ac] at *;omega)) ?_;intro b hb)|(refine And.intro (by first | omega | (simp (disch:=omega) only [Aa,Ab,Ac] at *;omega)) ?_)|((first | (refine Ah hm (by rfl) (by kernel_rfl) ?_)|(refine Det.use (Mb p hp hx) ?_)|(refine Det.useQ (Mb p hp hx) ?_));simp only [go_sem,Nat.reduceLT,↓reduceIte])|(exact True.intro)|(exfalso;omega)))
 by_cases h:∀ x∈p,Bc x
 ·have:=hw.2 h
  rw [decide_eq_true h,decide_eq_false (by omega)];rfl
 ·have:¬ Ju p (p.length+1) 0<0:=fun hc=>h (hw.1 hc)
  rw [decide_eq_false h,decide_eq_true (by omega)];rfl
theorem Jny (p:List Step) (hx:∀ x∈p,x.name.length≤9223372036854775807):Det cx 19 [.p (.sl (Bb p))] [] (.p (.bool (decide (E9 p)))) []:=by
 skip
 (refine Al.of_code (X:=cx) false [] (by simp) Tryz.func19 (by kernel_rfl) rfl (by simp only [List.length_cons,List.length_nil,Tryz.ntmps19];decide) (by simp) ?_;refine Ae hm _ _ _ ?_;simp only [Tryz.ntmps19,Tryz.results19,go_sem,Nat.reduceLT,Nat.reduceLeDiff,Nat.reduceEqDiff,Nat.reduceAdd,Nat.reduceSub,Nat.reduceMul,Nat.reduceBEq,Int.reduceToNat,Int.reduceLT,Int.reduceLE,Int.reduceEq,Int.reduceAdd,Int.reduceSub,Int.reduceNeg,↓reduceIte,reduceCtorEq,Aq])
 (repeat' (first | (refine iteI (fun h=>?_) (fun h=>?_))|(refine Ak (by first | omega | (simp (disch:=omega) only [Aa,Ab,Ac] at *;omega)) ?_;intro b hb)|(refine And.intro (by first | omega | (simp (disch:=omega) only [Aa,Ab,Ac] at *;omega)) ?_)|((first | (refine Ah hm (by rfl) (by kernel_rfl) ?_)|(refine Det.use (Es p (by omega) hx) ?_)|(refine Det.useQ (Es p (by omega) hx) ?_)|(refine Ag.use (Es p (by omega) hx) ?_)|(refine Ad.use (Es p (by omega) hx) ?_));simp only [go_sem,Nat.reduceLT,Nat.reduceEqDiff,↓reduceIte])|(exact True.intro)|(exfalso;omega)))
 ·rw [Bool.not_not];exact decide_eq_decide.2 ⟨fun h=>⟨by omega,h⟩,fun h=>h.2⟩
 ·exact (decide_eq_false (fun h=>by have:=h.1;omega)).symm
theorem D4 (p:List Step) (hp:p.length≤1000000) (hn:∀ x∈p,x.name.length≤1000000):Det cx 20 [.p (.sl (Bb p))] [] (.p (.bool (decide (E9 p)))) []:=by
 (refine Al.of_code (X:=cx) false [] (by simp) Tryz.func20 (by kernel_rfl) rfl (by simp only [List.length_cons,List.length_nil,Tryz.ntmps20];decide) (by simp) ?_;refine Ae hm _ _ _ ?_;simp only [Tryz.ntmps20,Tryz.results20,go_sem,Nat.reduceLT,Nat.reduceLeDiff,Nat.reduceEqDiff,Nat.reduceAdd,Nat.reduceSub,Nat.reduceMul,Nat.reduceBEq,Int.reduceToNat,Int.reduceLT,Int.reduceLE,Int.reduceEq,Int.reduceAdd,Int.reduceSub,Int.reduceNeg,↓reduceIte,reduceCtorEq])
 refine SWP.loop (fun i:Nat=>⟨Ba 67 [(0,.p (.sl (Bb p))),(3,.p (.int .i64 i))],[]⟩) (fun i=>i≤p.length∧∀ x∈p.take i,Bc x) (fun i=>p.length - i) 0 (St.le_slots (by simp only [Ap,Ar,Ao,Aj,Af,Nat.reduceEqDiff,reduceIte,Nat.reduceLT,Nat.reduceLeDiff];simp (disch:=omega) [Af,Ai,Au,Aa] <;> (repeat' apply And.intro) <;> omega) (by simp (disch:=omega) [Az,A3,Aw,Am,Af,Ai,Au,Aa]) (by simp [Ay])) ⟨Nat.zero_le _,by simp⟩ ?_
 rintro i ⟨h1,h3⟩
 by_cases hi:¬ i<p.length
 ·have hc:((i:Int)<(p.length:Int))=False:=eq_false (by omega)
  skip
  (refine Ae hm _ _ _ ?_;simp only [go_sem,Nat.reduceLT,Nat.reduceEqDiff,↓reduceIte,reduceCtorEq,Aq,hc])
  rw [List.take_of_length_le (by omega)] at h3
  by_cases hl:p.length≤20
  ·rw [decide_eq_true (show (p.length:Int)≤20 by omega),decide_eq_true ⟨hl,h3⟩]
  ·rw [decide_eq_false (show ¬ (p.length:Int)≤20 by omega),decide_eq_false (fun h=>hl h.1)]
 ·have hi:=Decidable.not_not.1 hi
  obtain ⟨x,hx⟩:∃ x,p[i]? = some x:=⟨_,List.getElem?_eq_getElem hi⟩
  have hg:=Dk hx
  have hm':=List.mem_of_getElem? hx
  have hc:((i:Int)<(p.length:Int))=True:=eq_true (by omega)
  have next:Bc x→∀ y∈p.take (i+1),Bc y:=fun hs y hy=>by
   rw [List.take_add_one,hx] at hy
   rcases List.mem_append.1 hy with hy | hy
   ·exact h3 y hy
   ·simp at hy;subst hy;exact hs
  have bad:¬ Bc x→false=decide (E9 p):=fun hs=>(decide_eq_false fun h=>hs (h.2 x hm')).symm
  cases hpt:x.part
  ·skip
   (refine Ae hm _ _ _ ?_;simp only [go_sem,Nat.reduceLT,Nat.reduceLeDiff,Nat.reduceEqDiff,Nat.reduceAdd,↓reduceIte,reduceCtorEq,Aq,hc,hg,hpt,wi1 (i:=i) (by omega)])
   (repeat' (first | (refine iteI (fun h=>?_) (fun h=>?_))|(refine Ak (by first | omega | (simp (disch:=omega) only [Aa,Ab,Ac] at *;omega)) ?_;intro b hb)|(refine And.intro (by first | omega | (simp (disch:=omega) only [Aa,Ab,Ac] at *;omega)) ?_)|((first | (refine Ah hm (by rfl) (by kernel_rfl) ?_)|(refine Det.use (Cn x.name (hn x hm')) ?_)|(refine Det.useQ (Cn x.name (hn x hm')) ?_));simp only [go_sem,Nat.reduceLT,Nat.reduceEqDiff,↓reduceIte,reduceCtorEq,wi1 (i:=i) (by omega)])|(exact True.intro)|(exfalso;omega)))
   ·exact bad (fun hs=>by unfold Bc at hs;rw [hpt,if_neg (by simp)] at hs;exact absurd hs.1 (by assumption))
   ·exact bad (fun hs=>by unfold Bc at hs;rw [hpt,if_neg (by simp)] at hs;simp_all)
   ·refine ⟨i+1,⟨by omega,next ?_⟩,by omega,(St.le_slots (by simp only [Ap,Ar,Ao,Aj,Af,Nat.reduceEqDiff,reduceIte,Nat.reduceLT,Nat.reduceLeDiff];simp (disch:=omega) [Af,Ai,Au,Aa] <;> (repeat' apply And.intro) <;> omega) (by simp (disch:=omega) [Az,A3,Aw,Am,Af,Ai,Au,Aa]) (by simp [Ay]))⟩
    unfold Bc
    rw [hpt,if_neg (by simp)]
    exact ⟨by omega,by simp_all⟩
  ·skip
   (refine Ae hm _ _ _ ?_;simp only [go_sem,Nat.reduceLT,Nat.reduceLeDiff,Nat.reduceEqDiff,Nat.reduceAdd,↓reduceIte,reduceCtorEq,Aq,hc,hg,hpt,wi1 (i:=i) (by omega),hg,hpt,wi1 (i:=i) (by omega)])
   (repeat' (first | (refine iteI (fun h=>?_) (fun h=>?_))|(refine Ak (by first | omega | (simp (disch:=omega) only [Aa,Ab,Ac] at *;omega)) ?_;intro b hb)|(refine And.intro (by first | omega | (simp (disch:=omega) only [Aa,Ab,Ac] at *;omega)) ?_)|((first | (refine Ah hm (by rfl) (by kernel_rfl) ?_));simp only [go_sem])|(exact True.intro)|(exfalso;omega)))
   ·exact bad (fun hs=>by unfold Bc at hs;rw [hpt,if_pos rfl] at hs;have e:x.name.length=0:=(by rw [hs.1];rfl);omega)
   ·exact bad (fun hs=>by unfold Bc at hs;rw [hpt,if_pos rfl] at hs;omega)
   ·exact bad (fun hs=>by unfold Bc at hs;rw [hpt,if_pos rfl] at hs;omega)
   ·refine ⟨i+1,⟨by omega,next ?_⟩,by omega,(St.le_slots (by simp only [Ap,Ar,Ao,Aj,Af,Nat.reduceEqDiff,reduceIte,Nat.reduceLT,Nat.reduceLeDiff];simp (disch:=omega) [Af,Ai,Au,Aa] <;> (repeat' apply And.intro) <;> omega) (by simp (disch:=omega) [Az,A3,Aw,Am,Af,Ai,Au,Aa]) (by simp [Ay]))⟩
    unfold Bc
    rw [hpt,if_pos rfl]
    exact ⟨List.eq_nil_of_length_eq_zero (by omega),by omega,by omega⟩
end Go.LX
set_option maxRecDepth 100000
set_option maxHeartbeats 2000000
namespace Go.LX
open Go Go.RowKit Go.Proofs
attribute [local irreducible] Al SWP Bi
def wrs (s:List UInt8):List UInt8:=s.flatMap fun c=>wr c.toNat
def refQ (s:List UInt8):List UInt8:=34 :: wrs s ++ [34]
theorem wr_le (c:Nat):(wr c).length≤6:=by
 unfold wr
 repeat' split
 all_goals simp
theorem Jlg (s:List UInt8):(wrs s).length≤6 * s.length:=by
 induction s with
 | nil=>simp [wrs]
 | cons c s ih =>
  have:=wr_le c.toNat
  simp only [wrs,List.flatMap_cons,List.length_append,List.length_cons] at ih ⊢
  omega
@[simp] theorem wrs_nil:wrs []=[]:=rfl
def u4 (s:List UInt8):Int:=if 6≤s.length∧at_ s 0=92∧at_ s 1=117 then (match hexN ((s.drop 2).take 4) 0 with | some n=>(n:Int) | none=>-1) else -1
def Hr (c:Nat):Option Nat :=
 if c=34 then some 34 else if c=92 then some 92 else if c=47 then some 47 else if c=98 then some 8 else if c=102 then some 12 else if c=110 then some 10 else if c=114 then some 13 else if c=116 then some 9 else none
def escR (s:List UInt8):Int×Nat :=
 if s.length<2 then (0,0) else match Hr (at_ s 1) with
  | some r=>(r,2)
  | none=>if u4 s<0∨(56320≤u4 s∧u4 s<57344) then (0,0) else if u4 s<55296∨57344≤u4 s then (u4 s,6)
   else if u4 (s.drop 6)<56320∨57344≤u4 (s.drop 6) then (0,0) else (65536+(u4 s - 55296) * 1024+(u4 (s.drop 6) - 56320),12)
def escS (s:List UInt8):List UInt8×Nat:=if (escR s).2=0 then ([],0) else (utf (escR s).1,(escR s).2)
theorem Jee (s:List UInt8):-1≤u4 s∧u4 s<65536:=by
 unfold u4
 split
 ·split
  ·rename_i n h
   have:=We _ _ _ h
   have hl:((s.drop 2).take 4).length=4:=by simp;omega
   rw [hl] at this
   omega
  ·omega
 ·omega
end Go.LX
set_option maxRecDepth 100000
set_option maxHeartbeats 2000000
namespace Go.LX
open Go Go.RowKit Go.Proofs
attribute [local irreducible] Al SWP Bi
theorem fl0:at_ [34,92,47,98,102,110,114,116] 0=34:=rfl
theorem fl1:at_ [34,92,47,98,102,110,114,116] 1=92:=rfl
theorem fl2:at_ [34,92,47,98,102,110,114,116] 2=47:=rfl
theorem fl3:at_ [34,92,47,98,102,110,114,116] 3=98:=rfl
theorem fl4:at_ [34,92,47,98,102,110,114,116] 4=102:=rfl
theorem fl5:at_ [34,92,47,98,102,110,114,116] 5=110:=rfl
theorem fl6:at_ [34,92,47,98,102,110,114,116] 6=114:=rfl
theorem fl7:at_ [34,92,47,98,102,110,114,116] 7=116:=rfl
theorem wk1:IntKind.i64.wrap 1=1:=by decide
theorem wk2:IntKind.i64.wrap 2=2:=by decide
theorem wk3:IntKind.i64.wrap 3=3:=by decide
theorem wk4:IntKind.i64.wrap 4=4:=by decide
theorem wk5:IntKind.i64.wrap 5=5:=by decide
theorem wk6:IntKind.i64.wrap 6=6:=by decide
theorem wk7:IntKind.i64.wrap 7=7:=by decide
theorem wk8:IntKind.i64.wrap 8=8:=by decide
theorem Ud {s:List UInt8} {r:Int} {n:Nat} (h:escR s=(r,n)) (hn:n≠0):escS s=(utf r,n):=by
 unfold escS;rw [h];simp [hn]
end Go.LX
set_option maxRecDepth 100000
set_option maxHeartbeats 2000000
namespace Go.LX
open Go Go.RowKit Go.Proofs
attribute [local irreducible] Al SWP Bi
def tk (s:List UInt8) (i:Nat):List UInt8×Nat:=if at_ s i=92 then escS (s.drop i) else ((s.drop i).take (rlen s i),rlen s i)
def uqF (s:List UInt8):Nat→Nat→List UInt8→List UInt8×Nat×Nat
 | 0,_,_=>([],s.length,1)
 | f+1,i,out=>if i<s.length then (if at_ s i=34 then (out,i+1,0) else if (tk s i).2=0∨at_ s i<32 then ([],i,1) else uqF s f (i+(tk s i).2) (out ++ (tk s i).1)) else ([],s.length,1)
def uq (s:List UInt8):List UInt8×Nat×Nat:=if s.length=0∨at_ s 0≠34 then ([],0,1) else uqF s (s.length+1) 1 []
theorem Jd0 (s:List UInt8):(escR s).2≤12∧(s.length<(escR s).2→(escR s).2=0):=by
 have key:∀ s:List UInt8,0≤u4 s→6≤s.length:=fun s h=>by
  unfold u4 at h
  split at h
  ·rename_i h6;exact h6.1
  ·omega
 unfold escR
 split
 ·exact ⟨by decide,fun _=>rfl⟩
 ·split
  ·exact ⟨by simp only;omega,fun h=>by simp only at h;omega⟩
  ·split
   ·exact ⟨by decide,fun _=>rfl⟩
   ·split
    ·exact ⟨by simp only;omega,fun h=>by have:=key s (by omega);simp only at h;omega⟩
    ·split
     ·exact ⟨by decide,fun _=>rfl⟩
     ·exact ⟨by simp only;omega,fun h=>by
       have h1:=key (s.drop 6) (by omega)
       rw [List.length_drop] at h1
       simp only at h;omega⟩
theorem Jpb (s:List UInt8):(escS s).1.length≤4∧(escS s).2≤12∧(escS s).2≤s.length:=by
 have h:=Jd0 s
 unfold escS
 split
 ·exact ⟨by decide,by decide,Nat.zero_le _⟩
 ·exact ⟨Od _,h.1,by rename_i hn;simp only;omega⟩
theorem tk_le (s:List UInt8) (i:Nat) (h:i<s.length):(tk s i).1.length≤4∧(tk s i).2≤12∧i+(tk s i).2≤s.length:=by
 unfold tk
 split
 ·have h1:=Jpb (s.drop i)
  rw [List.length_drop] at h1
  exact ⟨h1.1,h1.2.1,by omega⟩
 ·have h1:=M4 s i h
  have h2:=Qv s i
  exact ⟨by simp;omega,by simp only;omega,h1⟩
end Go.LX
set_option maxRecDepth 100000
set_option maxHeartbeats 2000000
namespace Go.LX
open Go Go.RowKit Go.Proofs
attribute [local irreducible] Al SWP Bi
theorem pre2 {s:List UInt8} (h:6≤s.length):s.take 2=[92,117] ↔ at_ s 0=92∧at_ s 1=117:=by
 match s,h with
 | a :: b :: t,_ =>
  simp only [List.take_succ_cons,List.take_zero,List.cons.injEq,and_true,Gu,Jk0]
  constructor
  ·rintro ⟨rfl,rfl⟩;exact ⟨rfl,rfl⟩
  ·rintro ⟨h1,h2⟩;exact ⟨UInt8.toNat_inj.1 h1,UInt8.toNat_inj.1 h2⟩
theorem Fk (s:List UInt8) (hs:s.length≤1000000):Det cx 224 [.p (.str s)] [] (.p (.int .i64 (u4 s))) []:=by
 by_cases h6:s.length<6
 ·rw [show u4 s = -1 by unfold u4;rw [if_neg (by omega)]]
  (refine Al.of_code (X:=cx) false [] (by simp) Tryz.func224 (by kernel_rfl) rfl (by simp only [List.length_cons,List.length_nil,Tryz.ntmps224];decide) (by simp) ?_;refine Ae hm _ _ _ ?_;simp only [Tryz.ntmps224,Tryz.results224,go_sem,Nat.reduceLT,Nat.reduceLeDiff,Nat.reduceEqDiff,Nat.reduceAdd,Nat.reduceSub,Nat.reduceMul,Nat.reduceBEq,Int.reduceToNat,Int.reduceLT,Int.reduceLE,Int.reduceEq,Int.reduceAdd,Int.reduceSub,Int.reduceNeg,↓reduceIte,reduceCtorEq])
  (repeat' (first | (refine iteI (fun h=>?_) (fun h=>?_))|(refine Ak (by first | omega | (simp (disch:=omega) only [Aa,Ab,Ac] at *;omega)) ?_;intro b hb)|(refine And.intro (by first | omega | (simp (disch:=omega) only [Aa,Ab,Ac] at *;omega)) ?_)|((first | (refine Ah hm (by rfl) (by kernel_rfl) ?_));simp only [go_sem])|(exact True.intro)|(exfalso;omega)))
 have hT:((s.drop 2).take 4).length=4:=by simp;omega
 have hp:=Zn _ hT
 have hca:=Sq _ hT
 have hu:u4 s=if at_ s 0=92∧at_ s 1=117 then (match hexN ((s.drop 2).take 4) 0 with | some n=>(n:Int) | none=>-1) else -1:=by
  unfold u4
  by_cases hq:at_ s 0=92∧at_ s 1=117
  ·rw [if_pos hq,if_pos ⟨by omega,hq⟩] <;> rfl
  ·rw [if_neg hq,if_neg (fun h=>hq h.2)]
 have hmk:0≤iaF ((s.drop 2).take 4) 5 0→hexN ((s.drop 2).take 4) 0=none:=fun h=>by
  obtain ⟨k,h1,h2⟩:=Y5 _ _ _ h
  exact S4 _ _ k h1 h2
 generalize hTT:(s.drop 2).take 4=T at *
 cases hx:hexN T 0 with
 | none =>
  rw [hx] at hp hu
  simp only [Vk,ite_self] at hp hu
  rw [hu]
  skip
  (refine Al.of_code (X:=cx) false [] (by simp) Tryz.func224 (by kernel_rfl) rfl (by simp only [List.length_cons,List.length_nil,Tryz.ntmps224];decide) (by simp) ?_;refine Ae hm _ _ _ ?_;simp only [Tryz.ntmps224,Tryz.results224,go_sem,Nat.reduceLT,Nat.reduceLeDiff,Nat.reduceEqDiff,Nat.reduceAdd,Nat.reduceSub,Nat.reduceMul,Nat.reduceBEq,Int.reduceToNat,Int.reduceLT,Int.reduceLE,Int.reduceEq,Int.reduceAdd,Int.reduceSub,Int.reduceNeg,↓reduceIte,reduceCtorEq,hTT])
  (repeat' (first | (refine iteI (fun h=>?_) (fun h=>?_))|(refine Ak (by first | omega | (simp (disch:=omega) only [Aa,Ab,Ac] at *;omega)) ?_;intro b hb)|(refine And.intro (by first | omega | (simp (disch:=omega) only [Aa,Ab,Ac] at *;omega)) ?_)|((first | (refine Ah hm (by rfl) (by kernel_rfl) ?_)|(refine Det.use (Bj s _ hs (by decide)) ?_)|(refine Det.useQ (Bj s _ hs (by decide)) ?_)|(refine Det.use (hca) ?_)|(refine Det.useQ (hca) ?_)|(refine Ag.use (hca) ?_)|(refine Ad.use (hca) ?_)|(refine Det.use (hp) ?_)|(refine Det.useQ (hp) ?_)|(refine Ag.use (hp) ?_)|(refine Ad.use (hp) ?_));simp only [go_sem,Nat.reduceLT,Nat.reduceEqDiff,Nat.reduceAdd,Nat.reduceSub,Int.reduceToNat,Int.reduceLE,Int.reduceNeg,↓reduceIte,reduceCtorEq,hTT])|(exact True.intro)|(exfalso;omega)))
  all_goals first
   | (rw [hu,if_neg (by rw [← pre2 (by omega)];assumption)])
   | (rw [hu,if_pos (by rw [← pre2 (by omega)];simp_all)])
 | some n =>
  have hia:¬ 0≤iaF T 5 0:=fun h=>by rw [hmk h] at hx;cases hx
  have hn:=We _ _ _ hx
  rw [hT] at hn
  have hwn:=wi0 (c:=n) (by omega)
  rw [hx] at hp hu
  simp only [Vk] at hp hu
  skip
  (refine Al.of_code (X:=cx) false [] (by simp) Tryz.func224 (by kernel_rfl) rfl (by simp only [List.length_cons,List.length_nil,Tryz.ntmps224];decide) (by simp) ?_;refine Ae hm _ _ _ ?_;simp only [Tryz.ntmps224,Tryz.results224,go_sem,Nat.reduceLT,Nat.reduceLeDiff,Nat.reduceEqDiff,Nat.reduceAdd,Nat.reduceSub,Nat.reduceMul,Nat.reduceBEq,Int.reduceToNat,Int.reduceLT,Int.reduceLE,Int.reduceEq,Int.reduceAdd,Int.reduceSub,Int.reduceNeg,↓reduceIte,reduceCtorEq,hTT,hTT,hwn])
  (repeat' (first | (refine iteI (fun h=>?_) (fun h=>?_))|(refine Ak (by first | omega | (simp (disch:=omega) only [Aa,Ab,Ac] at *;omega)) ?_;intro b hb)|(refine And.intro (by first | omega | (simp (disch:=omega) only [Aa,Ab,Ac] at *;omega)) ?_)|((first | (refine Ah hm (by rfl) (by kernel_rfl) ?_)|(refine Det.use (Bj s _ hs (by decide)) ?_)|(refine Det.useQ (Bj s _ hs (by decide)) ?_)|(refine Det.use (hca) ?_)|(refine Det.useQ (hca) ?_)|(refine Ag.use (hca) ?_)|(refine Ad.use (hca) ?_)|(refine Det.use (hp) ?_)|(refine Det.useQ (hp) ?_)|(refine Ag.use (hp) ?_)|(refine Ad.use (hp) ?_));simp only [go_sem,Nat.reduceLT,Nat.reduceEqDiff,Nat.reduceAdd,Nat.reduceSub,Int.reduceToNat,Int.reduceLE,Int.reduceNeg,↓reduceIte,reduceCtorEq,hTT,hTT,hwn])|(exact True.intro)|(exfalso;omega)))
  all_goals first
   | (rw [hu,if_neg (by rw [← pre2 (by omega)];assumption)])
   | (rw [hu,if_pos (by rw [← pre2 (by omega)];simp_all)])
theorem Pf (c:Nat):(Hr c=none∧Cl (.int .u8 c) Ei 0=some none)∨∃ i r,Hr c=some r∧r≤92∧Cl (.int .u8 c) Ei 0=some (some (i,.int .i32 r)):=by
 have key:∀ (b:Int) (v:PV) (es:List (PV×PV)) (i:Nat),Cl (.int .u8 c) ((.int .u8 b,v) :: es) i=if (c:Int)=b then some (some (i,v)) else Cl (.int .u8 c) es (i+1):=fun b v es i=>by
  by_cases h:(c:Int)=b
  ·simp [Cl,Lc,h]
  ·have:((c:Int) == b)=false:=by simp [h]
   simp [Cl,Lc,this,h]
 unfold Hr Ei
 simp only [key]
 have hc:∀ b:Nat,((c:Int)=(b:Int))=(c=b):=fun b=>by apply propext;omega
 have e1:=hc 34
 have e2:=hc 92
 have e3:=hc 47
 have e4:=hc 98
 have e5:=hc 102
 have e6:=hc 110
 have e7:=hc 114
 have e8:=hc 116
 simp only [Int.cast_ofNat_Int] at e1 e2 e3 e4 e5 e6 e7 e8
 simp only [e1,e2,e3,e4,e5,e6,e7,e8]
 by_cases h1:c=34
 ·exact .inr ⟨0,34,by simp [h1],by decide,by simp [h1]⟩
 by_cases h2:c=92
 ·exact .inr ⟨1,92,by simp [h2],by decide,by simp [h2]⟩
 by_cases h3:c=47
 ·exact .inr ⟨2,47,by simp [h3],by decide,by simp [h3]⟩
 by_cases h4:c=98
 ·exact .inr ⟨3,8,by simp [h4],by decide,by simp [h4]⟩
 by_cases h5:c=102
 ·exact .inr ⟨4,12,by simp [h5],by decide,by simp [h5]⟩
 by_cases h6:c=110
 ·exact .inr ⟨5,10,by simp [h6],by decide,by simp [h6]⟩
 by_cases h7:c=114
 ·exact .inr ⟨6,13,by simp [h7],by decide,by simp [h7]⟩
 by_cases h8:c=116
 ·exact .inr ⟨7,9,by simp [h8],by decide,by simp [h8]⟩
 ·refine .inl ⟨by simp [*],?_⟩
  rw [if_neg h1,if_neg h2,if_neg h3,if_neg h4,if_neg h5,if_neg h6,if_neg h7,if_neg h8]
  rfl
theorem u4_six {s:List UInt8} (h:0≤u4 s):6≤s.length:=by
 unfold u4 at h
 split at h
 ·rename_i h6;exact h6.1
 ·omega
theorem Mv (s:List UInt8) (hs:s.length≤1000000):Det cx 177 [.p (.str s)] [] (.tup [.int .i32 (escR s).1,.int .i64 (escR s).2]) []:=by
 obtain ⟨hu1,hu2⟩:=Jee s
 obtain ⟨hv1,hv2⟩:=Jee (s.drop 6)
 have hB:=Fr s 1
 have h66:0≤u4 s→6≤s.length:=u4_six
 rcases (Pf (at_ s 1)).symm with ⟨i,r,hsr,hr,hmf⟩ | ⟨hsr,hmf⟩
 ·skip
  (refine Al.of_code (X:=cx) false [] (by simp) Tryz.func177 (by kernel_rfl) rfl (by simp only [List.length_cons,List.length_nil,Tryz.ntmps177];decide) (by simp) ?_;refine Ae hm _ _ _ ?_;simp only [Tryz.ntmps177,Tryz.results177,go_sem,Nat.reduceLT,Nat.reduceLeDiff,Nat.reduceEqDiff,Nat.reduceAdd,Nat.reduceSub,Nat.reduceMul,Nat.reduceBEq,Int.reduceToNat,Int.reduceLT,Int.reduceLE,Int.reduceEq,Int.reduceAdd,Int.reduceSub,Int.reduceNeg,↓reduceIte,reduceCtorEq,hmf])
  (repeat' (first | (refine iteI (fun h=>?_) (fun h=>?_))|(refine Ak (by first | omega | (simp (disch:=omega) only [Aa,Ab,Ac] at *;omega)) ?_;intro b hb)|(refine And.intro (by first | omega | (simp (disch:=omega) only [Aa,Ab,Ac] at *;omega)) ?_)|((first | (refine Ah hm (by rfl) (by kernel_rfl) ?_)|(refine Det.use (Kl) ?_)|(refine Det.useQ (Kl) ?_)|(refine Det.use (Fk _ hs) ?_)|(refine Det.useQ (Fk _ hs) ?_)|(refine Det.use (Fk (s.drop 6) (by simp;omega)) ?_)|(refine Det.useQ (Fk (s.drop 6) (by simp;omega)) ?_));simp only [go_sem,Nat.reduceLT,Nat.reduceEqDiff,Int.reduceToNat,Int.reduceLE,↓reduceIte,reduceCtorEq,hmf])|(exact True.intro)|(exfalso;omega)))
  ·unfold escR;rw [if_pos (by omega)];exact ⟨rfl,rfl⟩
  ·unfold escR;rw [if_neg (by omega),hsr];exact ⟨rfl,rfl⟩
 ·have z0:=Qs (n:=u4 s) (by omega) (by omega)
  have z1:=Aa (n:=u4 s - 55296) (by omega) (by omega)
  have z2:IntKind.i64.wrap ((u4 s - 55296) * 2 ^ min 10 (B0 .i64))=(u4 s - 55296) * 1024:=Aa (n:=(u4 s - 55296) * 1024) (by omega) (by omega)
  have z3:=Aa (n:=65536+(u4 s - 55296) * 1024) (by omega) (by omega)
  have z4:=Aa (n:=65536+(u4 s - 55296) * 1024+u4 (s.drop 6)) (by omega) (by omega)
  have z5:=Aa (n:=65536+(u4 s - 55296) * 1024+u4 (s.drop 6) - 56320) (by omega) (by omega)
  have z6:=Qs (n:=65536+(u4 s - 55296) * 1024+u4 (s.drop 6) - 56320) (by omega) (by omega)
  skip
  (refine Al.of_code (X:=cx) false [] (by simp) Tryz.func177 (by kernel_rfl) rfl (by simp only [List.length_cons,List.length_nil,Tryz.ntmps177];decide) (by simp) ?_;refine Ae hm _ _ _ ?_;simp only [Tryz.ntmps177,Tryz.results177,go_sem,Nat.reduceLT,Nat.reduceLeDiff,Nat.reduceEqDiff,Nat.reduceAdd,Nat.reduceSub,Nat.reduceMul,Nat.reduceBEq,Int.reduceToNat,Int.reduceLT,Int.reduceLE,Int.reduceEq,Int.reduceAdd,Int.reduceSub,Int.reduceNeg,↓reduceIte,reduceCtorEq,hmf,hmf,z0,z1,z2,z3,z4,z5,z6])
  (repeat' (first | (refine iteI (fun h=>?_) (fun h=>?_))|(refine Ak (by first | omega | (simp (disch:=omega) only [Aa,Ab,Ac] at *;omega)) ?_;intro b hb)|(refine And.intro (by first | omega | (simp (disch:=omega) only [Aa,Ab,Ac] at *;omega)) ?_)|((first | (refine Ah hm (by rfl) (by kernel_rfl) ?_)|(refine Det.use (Kl) ?_)|(refine Det.useQ (Kl) ?_)|(refine Det.use (Fk _ hs) ?_)|(refine Det.useQ (Fk _ hs) ?_)|(refine Det.use (Fk (s.drop 6) (by simp;omega)) ?_)|(refine Det.useQ (Fk (s.drop 6) (by simp;omega)) ?_));simp only [go_sem,Nat.reduceLT,Nat.reduceEqDiff,Int.reduceToNat,Int.reduceLE,↓reduceIte,reduceCtorEq,hmf,hmf,z0,z1,z2,z3,z4,z5,z6])|(exact True.intro)|(exfalso;omega)))
  ·unfold escR;rw [if_pos (by omega)];exact ⟨rfl,rfl⟩
  all_goals (unfold escR;rw [if_neg (by omega),hsr];simp only)
  all_goals ((repeat' split) <;> first | (exfalso;omega)|(exact ⟨rfl,rfl⟩)|(refine ⟨?_,rfl⟩;simp only;omega))
end Go.LX
set_option maxRecDepth 100000
set_option maxHeartbeats 2000000
namespace Go.LX
open Go Go.RowKit Go.Proofs
attribute [local irreducible] Al SWP Bi
theorem Gq {s:List UInt8} {i:Nat} (h:rlen s i≠0):(code s i<128 ↔ at_ s i<128)∧(at_ s i<128→code s i=at_ s i):=by
 have h0:=Fr s i
 rcases Fd s i with e | ⟨e,g1⟩ | ⟨e,g1,g2,g3⟩ | ⟨e,g1,g2,g3,g4,g5,g6⟩ | ⟨e,g1,g2,g3,g4,g5,g6,g7⟩
 ·exact absurd e h
 ·have ec:code s i=at_ s i:=by unfold code;rw [if_pos g1]
  omega
 ·have ec:code s i=at_ s i % 32 * 64+at_ s (i+1) % 64:=by unfold code;rw [if_neg (by omega),if_pos (by omega)]
  omega
 ·have ec:code s i=at_ s i % 16 * 4096+at_ s (i+1) % 64 * 64+at_ s (i+2) % 64:=by unfold code;rw [if_neg (by omega),if_neg (by omega),if_pos (by omega)]
  omega
 ·have ec:code s i=at_ s i % 8 * 262144+at_ s (i+1) % 64 * 4096+at_ s (i+2) % 64 * 64+at_ s (i+3) % 64:=by unfold code;rw [if_neg (by omega),if_neg (by omega),if_neg (by omega)]
  omega
theorem Q4 {s:List UInt8} {i:Nat}:rlen s i=1 ↔ at_ s i<128:=by
 rcases Fd s i with e | ⟨e,g1⟩ | ⟨e,g1,g2,g3⟩ | ⟨e,g1,g2,g3,g4,g5,g6⟩ | ⟨e,g1,g2,g3,g4,g5,g6,g7⟩
 ·constructor
  ·omega
  ·intro h;unfold rlen at e;rw [if_pos h] at e;cases e
 all_goals omega
theorem Jgy {s:List UInt8} {i:Nat} (h:i<s.length) (hr:rlen s i=0):K3 (s.drop i)=(65533,1):=by
 unfold K3
 rw [if_neg (by rw [List.length_drop];omega),Qy,Nat.add_zero,F1,if_pos hr]
theorem Jcl {s:List UInt8} {i:Nat} (h:i<s.length) (hr:rlen s i≠0):K3 (s.drop i)=(code s i,rlen s i):=by
 unfold K3
 rw [if_neg (by rw [List.length_drop];omega),Qy,Nat.add_zero,F1,if_neg hr]
theorem O6 {s:List UInt8} (h:(escR s).2≠0):Cy (escR s).1:=by
 have h1:=Jee s
 have h2:=Jee (s.drop 6)
 unfold escR at h ⊢
 unfold Cy
 split at h
 ·exact absurd rfl h
 ·rename_i hl
  rw [if_neg hl]
  split at h
  ·rename_i r hr
   have:r≤92:=by rcases Pf (at_ s 1) with ⟨e,_⟩ | ⟨i,r',e,hr',_⟩ <;> rw [hr] at e <;> cases e;exact hr'
   simp only;omega
  ·split at h
   ·exact absurd rfl h
   ·rename_i g1
    rw [if_neg g1]
    split at h
    ·rename_i g2
     rw [if_pos g2];simp only;omega
    ·rename_i g2
     rw [if_neg g2]
     split at h
     ·exact absurd rfl h
     ·rename_i g3
      rw [if_neg g3];simp only;omega
theorem I4 (r:Int):1≤(utf r).length:=by
 rw [D6];unfold utfC
 repeat' split
 all_goals simp
def uqSt (i:Nat) (s:List UInt8):List UInt8→St
 | []=>⟨Ba 60 [(0,.p (.str s)),(5,.ptr 5 0 0),(6,.p (.int .i64 i))],[(5,.var 128 [.p .nptr,.p .snil])]⟩
 | c :: t=>⟨Ba 60 [(0,.p (.str s)),(5,.ptr 5 0 0),(6,.p (.int .i64 i))],[(54,.row 5 1 (bstr (c :: t))),(5,.var 128 [.ptr 5 0 0,.own 54 0 (c :: t).length])]⟩
theorem Ik {i:Nat} {s out:List UInt8} (h:out≠[]):uqSt i s out=⟨Ba 60 [(0,.p (.str s)),(5,.ptr 5 0 0),(6,.p (.int .i64 i))],[(54,.row 5 1 (bstr out)),(5,.var 128 [.ptr 5 0 0,.own 54 0 out.length])]⟩:=by
 cases out with
 | nil=>exact absurd rfl h
 | cons c t=>rfl
theorem Rm {i:Nat} {s:List UInt8}:uqSt i s []=⟨Ba 60 [(0,.p (.str s)),(5,.ptr 5 0 0),(6,.p (.int .i64 i))],[(5,.var 128 [.p .nptr,.p .snil])]⟩:=rfl
theorem pre1 {s:List UInt8}:s.take 1=[34] ↔ ¬ (s.length=0∨at_ s 0≠34):=by
 match s with
 | []=>simp
 | a :: t =>
  simp only [List.take_succ_cons,List.take_zero,List.cons.injEq,and_true,Gu,List.length_cons]
  constructor
  ·rintro rfl;simp
  ·intro h
   exact UInt8.toNat_inj.1 (by simp at h ⊢;exact h)
theorem Ts (s:List UInt8) (hs:s.length≤1000000):Det cx 107 [.p (.str s)] [] (.tup [.str (uq s).1,.int .i64 (uq s).2.1,.int .i64 (uq s).2.2]) []:=by
 (refine Al.of_code (X:=cx) false [] (by simp) Tryz.func107 (by kernel_rfl) rfl (by simp only [List.length_cons,List.length_nil,Tryz.ntmps107];decide) (by simp) ?_;refine Ae hm _ _ _ ?_;simp only [Tryz.ntmps107,Tryz.results107,go_sem,Nat.reduceLT,Nat.reduceLeDiff,Nat.reduceEqDiff,Nat.reduceAdd,Nat.reduceSub,Nat.reduceMul,Nat.reduceBEq,Int.reduceToNat,Int.reduceLT,Int.reduceLE,Int.reduceEq,Int.reduceAdd,Int.reduceSub,Int.reduceNeg,↓reduceIte,reduceCtorEq])
 (repeat' (first | (refine iteI (fun h=>?_) (fun h=>?_))|(refine Ak (by first | omega | (simp (disch:=omega) only [Aa,Ab,Ac] at *;omega)) ?_;intro b hb)|(refine And.intro (by first | omega | (simp (disch:=omega) only [Aa,Ab,Ac] at *;omega)) ?_)|((first | (refine Ah hm (by rfl) (by kernel_rfl) ?_)|(refine Det.use (Bj s _ hs (by decide)) ?_)|(refine Det.useQ (Bj s _ hs (by decide)) ?_));simp only [go_sem,Nat.reduceLT,Nat.reduceEqDiff,↓reduceIte])|(exact True.intro)|(exfalso;omega)))
 ·unfold uq;rw [if_pos (by rw [pre1] at *;exact Decidable.not_not.1 (by assumption))];exact ⟨rfl,rfl,rfl⟩
 have hp:¬ (s.length=0∨at_ s 0≠34):=pre1.1 (Decidable.not_not.1 (by assumption))
 have e:uq s=uqF s (s.length+1) 1 []:=by unfold uq;rw [if_neg hp]
 refine SWP.loop (fun x:Nat×Nat×List UInt8=>uqSt x.1 s x.2.2) (fun x=>1≤x.1∧x.1≤s.length∧s.length+1≤x.1+x.2.1∧x.2.2.length≤4 * x.1∧uqF s x.2.1 x.1 x.2.2=uq s) (fun x=>s.length - x.1) (1,s.length+1,[]) (St.le_slots (by simp only [Ap,Ar,Ao,Aj,Af,Nat.reduceEqDiff,reduceIte,Nat.reduceLT,Nat.reduceLeDiff];simp (disch:=omega) [Af,Ai,Au,Aa] <;> (repeat' apply And.intro) <;> omega) (by simp (disch:=omega) [Az,A3,Aw,Am,Af,Ai,Au,Aa]) (by simp [Ay])) ⟨by simp,by simp only;omega,by simp,by simp,e.symm⟩ ?_
 rintro ⟨i,f,out⟩ ⟨h0,h1,h2,h3,h4⟩
 simp only at h0 h1 h2 h3 h4
 obtain ⟨g,rfl⟩:∃ g,f=g+1:=⟨f - 1,by omega⟩
 show SWP _ _ _ _ (uqSt i s out)
 by_cases hlt:¬ i<s.length
 ·rw [uqF,if_neg hlt] at h4
  by_cases hne:out=[]
  ·subst hne
   rw [Rm]
   (refine Ae hm _ _ _ ?_;simp only [go_sem,Nat.reduceLT,Nat.reduceEqDiff,↓reduceIte,reduceCtorEq])
   (repeat' (first | (refine iteI (fun h=>?_) (fun h=>?_))|(refine Ak (by first | omega | (simp (disch:=omega) only [Aa,Ab,Ac] at *;omega)) ?_;intro b hb)|(refine And.intro (by first | omega | (simp (disch:=omega) only [Aa,Ab,Ac] at *;omega)) ?_)|((first | (refine Ah hm (by rfl) (by kernel_rfl) ?_));simp only [go_sem])|(exact True.intro)|(exfalso;omega)))
   rw [← h4];exact ⟨rfl,rfl,rfl⟩
  ·rw [Ik hne]
   (refine Ae hm _ _ _ ?_;simp only [go_sem,Nat.reduceLT,Nat.reduceEqDiff,↓reduceIte,reduceCtorEq])
   (repeat' (first | (refine iteI (fun h=>?_) (fun h=>?_))|(refine Ak (by first | omega | (simp (disch:=omega) only [Aa,Ab,Ac] at *;omega)) ?_;intro b hb)|(refine And.intro (by first | omega | (simp (disch:=omega) only [Aa,Ab,Ac] at *;omega)) ?_)|((first | (refine Ah hm (by rfl) (by kernel_rfl) ?_));simp only [go_sem])|(exact True.intro)|(exfalso;omega)))
   rw [← h4];exact ⟨rfl,rfl,rfl⟩
 ·have hlt:=Decidable.not_not.1 hlt
  have ht:=tk_le s i hlt
  rw [uqF,if_pos hlt] at h4
  by_cases hr:rlen s i=0
  ·have hd:=Jgy hlt hr
   have ha:128≤at_ s i:=Nat.le_of_not_lt fun h=>by rw [Q4.2 h] at hr;cases hr
   have h5:(tk s i).2=0:=by unfold tk;rw [if_neg (by omega)];exact hr
   rw [if_neg (by omega),if_pos (.inl h5)] at h4
   by_cases hne:out=[]
   ·subst hne
    rw [Rm]
    skip
    (refine Ae hm _ _ _ ?_;simp only [go_sem,Nat.reduceLT,Nat.reduceEqDiff,↓reduceIte,reduceCtorEq])
    (repeat' (first | (refine iteI (fun h=>?_) (fun h=>?_))|(refine Ak (by first | omega | (simp (disch:=omega) only [Aa,Ab,Ac] at *;omega)) ?_;intro b hb)|(refine And.intro (by first | omega | (simp (disch:=omega) only [Aa,Ab,Ac] at *;omega)) ?_)|((first | (refine Ah hm (by rfl) (by kernel_rfl) ?_)|(refine Det.use (C4 _) ?_)|(refine Det.useQ (C4 _) ?_));simp only [go_sem,Nat.reduceLT,Nat.reduceEqDiff,Nat.reduceAdd,↓reduceIte,reduceCtorEq,hd])|(exact True.intro)|(exfalso;omega)))
    rw [← h4];exact ⟨rfl,rfl,rfl⟩
   ·rw [Ik hne]
    (refine Ae hm _ _ _ ?_;simp only [go_sem,Nat.reduceLT,Nat.reduceEqDiff,↓reduceIte,reduceCtorEq])
    (repeat' (first | (refine iteI (fun h=>?_) (fun h=>?_))|(refine Ak (by first | omega | (simp (disch:=omega) only [Aa,Ab,Ac] at *;omega)) ?_;intro b hb)|(refine And.intro (by first | omega | (simp (disch:=omega) only [Aa,Ab,Ac] at *;omega)) ?_)|((first | (refine Ah hm (by rfl) (by kernel_rfl) ?_)|(refine Det.use (C4 _) ?_)|(refine Det.useQ (C4 _) ?_));simp only [go_sem,Nat.reduceLT,Nat.reduceLeDiff,Nat.reduceEqDiff,Nat.reduceAdd,Nat.reduceBEq,↓reduceIte,reduceCtorEq,hd])|(exact True.intro)|(exfalso;omega)))
    rw [← h4];exact ⟨rfl,rfl,rfl⟩
  ·have hd:=Jcl hlt hr
   have hc:=Gq hr
   have hone:rlen s i=1 ↔ at_ s i<128:=Q4
   have hR:=Fm hr
   unfold Cy at hR
   have hE:(escR (s.drop i)).2≠0→0≤(escR (s.drop i)).1∧(escR (s.drop i)).1≤1114111:=fun h=>by
    have:=O6 h
    unfold Cy at this
    omega
   have hEl:=Jd0 (s.drop i)
   have h4r:=Qv s i
   have hT9:at_ s i=92→(escR (s.drop i)).2≠0→tk s i=(utf (escR (s.drop i)).1,(escR (s.drop i)).2):=fun h h'=>by
    unfold tk;rw [if_pos h];unfold escS;rw [if_neg h']
   have hT0:at_ s i=92→(escR (s.drop i)).2=0→(tk s i).2=0:=fun h h'=>by
    unfold tk;rw [if_pos h];unfold escS;rw [if_pos h']
   have hTn:at_ s i≠92→tk s i=(utf (code s i),rlen s i):=fun h=>by
    unfold tk;rw [if_neg h,H5 hr hlt]
   have hu1:=I4 (code s i)
   have hu2:=I4 (escR (s.drop i)).1
   have hnn:∀ r,out ++ utf r≠[]:=fun r h=>by have:=I4 r;rw [(List.append_eq_nil_iff.1 h).2] at this;simp at this
   by_cases hne:out=[]
   ·subst hne
    rw [Rm]
    skip
    (refine Ae hm _ _ _ ?_;simp only [go_sem,Nat.reduceLT,Nat.reduceEqDiff,↓reduceIte,reduceCtorEq,wi1 (i:=i) (by omega),wia (i:=i) (j:=rlen s i) (by omega) (by omega),wia (i:=i) (j:=(escR (s.drop i)).2) (by omega) (by omega)])
    (repeat' (first | (refine iteI (fun h=>?_) (fun h=>?_))|(refine Ak (by first | omega | (simp (disch:=omega) only [Aa,Ab,Ac] at *;omega)) ?_;intro b hb)|(refine And.intro (by first | omega | (simp (disch:=omega) only [Aa,Ab,Ac] at *;omega)) ?_)|((first | (refine Ah hm (by rfl) (by kernel_rfl) ?_)|(refine Det.use (C4 _) ?_)|(refine Det.useQ (C4 _) ?_)|(refine Det.use (Fa) ?_)|(refine Det.useQ (Fa) ?_)|(refine Det.use (Mv _ (by rw [List.length_drop];omega)) ?_)|(refine Det.useQ (Mv _ (by rw [List.length_drop];omega)) ?_)|(refine Det.use (Hb _ (by omega) (by omega)) ?_)|(refine Det.useQ (Hb _ (by omega) (by omega)) ?_));simp only [go_sem,Nat.reduceLT,Nat.reduceLeDiff,Nat.reduceEqDiff,Nat.reduceAdd,↓reduceIte,reduceCtorEq,hd,wi1 (i:=i) (by omega),wia (i:=i) (j:=rlen s i) (by omega) (by omega),wia (i:=i) (j:=(escR (s.drop i)).2) (by omega) (by omega)])|(exact True.intro)|(exfalso;omega)))
    all_goals first
     | (rw [if_pos (by omega)] at h4;rw [← h4];exact ⟨rfl,rfl,rfl⟩)
     | (rw [if_neg (by omega),if_pos (.inl (hT0 (by omega) (by omega)))] at h4;rw [← h4];exact ⟨rfl,rfl,rfl⟩)
     | (rw [if_neg (by omega),if_pos (.inr (by omega))] at h4;rw [← h4];exact ⟨rfl,rfl,rfl⟩)
     | (
      have hT:=hTn (by omega)
      rw [hT] at h4 ht
      simp only at h4 ht
      rw [if_neg (by omega),if_neg (by omega)] at h4
      refine ⟨(i+rlen s i,g,[] ++ utf (code s i)),⟨by simp only;omega,by simp only;omega,by simp only;omega,by simp only [List.length_append,List.length_nil];omega,h4⟩,by simp only;omega,?_⟩
      simp only;rw [Ik (hnn _)];exact (St.le_slots (by simp only [Ap,Ar,Ao,Aj,Af,Nat.reduceEqDiff,reduceIte,Nat.reduceLT,Nat.reduceLeDiff];simp (disch:=omega) [Af,Ai,Au,Aa] <;> (repeat' apply And.intro) <;> omega) (by simp (disch:=omega) [Az,A3,Aw,Am,Af,Ai,Au,Aa]) (by simp [Ay])))
     | (
      have hT:=hT9 (by omega) (by omega)
      rw [hT] at h4 ht
      simp only at h4 ht
      rw [if_neg (by omega),if_neg (by omega)] at h4
      refine ⟨(i+(escR (s.drop i)).2,g,[] ++ utf (escR (s.drop i)).1),⟨by simp only;omega,by simp only;omega,by simp only;omega,by simp only [List.length_append,List.length_nil];omega,h4⟩,by simp only;omega,?_⟩
      simp only;rw [Ik (hnn _)];exact (St.le_slots (by simp only [Ap,Ar,Ao,Aj,Af,Nat.reduceEqDiff,reduceIte,Nat.reduceLT,Nat.reduceLeDiff];simp (disch:=omega) [Af,Ai,Au,Aa] <;> (repeat' apply And.intro) <;> omega) (by simp (disch:=omega) [Az,A3,Aw,Am,Af,Ai,Au,Aa]) (by simp [Ay])))
   ·have hl0:out.length≠0:=fun h=>hne (List.eq_nil_of_length_eq_zero h)
    rw [Ik hne]
    (refine Ae hm _ _ _ ?_;simp only [go_sem,Nat.reduceLT,Nat.reduceEqDiff,↓reduceIte,reduceCtorEq,wi1 (i:=i) (by omega),wia (i:=i) (j:=rlen s i) (by omega) (by omega),wia (i:=i) (j:=(escR (s.drop i)).2) (by omega) (by omega)])
    (repeat' (first | (refine iteI (fun h=>?_) (fun h=>?_))|(refine Ak (by first | omega | (simp (disch:=omega) only [Aa,Ab,Ac] at *;omega)) ?_;intro b hb)|(refine And.intro (by first | omega | (simp (disch:=omega) only [Aa,Ab,Ac] at *;omega)) ?_)|((first | (refine Ah hm (by rfl) (by kernel_rfl) ?_)|(refine Det.use (C4 _) ?_)|(refine Det.useQ (C4 _) ?_)|(refine Det.use (Eo out _ rfl (by omega) hl0) ?_)|(refine Det.useQ (Eo out _ rfl (by omega) hl0) ?_)|(refine Det.use (Mv _ (by rw [List.length_drop];omega)) ?_)|(refine Det.useQ (Mv _ (by rw [List.length_drop];omega)) ?_)|(refine Det.use (Ed _ _ _ (Di _) (by omega) (by omega) (by omega)) ?_)|(refine Det.useQ (Ed _ _ _ (Di _) (by omega) (by omega) (by omega)) ?_));simp only [go_sem,Nat.reduceLT,Nat.reduceLeDiff,Nat.reduceEqDiff,Nat.reduceAdd,Nat.reduceBEq,↓reduceIte,reduceCtorEq,hd,wi1 (i:=i) (by omega),wia (i:=i) (j:=rlen s i) (by omega) (by omega),wia (i:=i) (j:=(escR (s.drop i)).2) (by omega) (by omega)])|(exact True.intro)|(exfalso;omega)))
    all_goals first
     | (rw [if_pos (by omega)] at h4;rw [← h4];exact ⟨rfl,rfl,rfl⟩)
     | (rw [if_neg (by omega),if_pos (.inl (hT0 (by omega) (by omega)))] at h4;rw [← h4];exact ⟨rfl,rfl,rfl⟩)
     | (rw [if_neg (by omega),if_pos (.inr (by omega))] at h4;rw [← h4];exact ⟨rfl,rfl,rfl⟩)
     | (
      have hT:=hTn (by omega)
      rw [hT] at h4 ht
      simp only at h4 ht
      rw [if_neg (by omega),if_neg (by omega)] at h4
      refine ⟨(i+rlen s i,g,out ++ utf (code s i)),⟨by simp only;omega,by simp only;omega,by simp only;omega,by simp only [List.length_append];omega,h4⟩,by simp only;omega,?_⟩
      simp only;rw [Ik (hnn _),Gz,List.length_append];exact (St.le_slots (by simp only [Ap,Ar,Ao,Aj,Af,Nat.reduceEqDiff,reduceIte,Nat.reduceLT,Nat.reduceLeDiff];simp (disch:=omega) [Af,Ai,Au,Aa] <;> (repeat' apply And.intro) <;> omega) (by simp (disch:=omega) [Az,A3,Aw,Am,Af,Ai,Au,Aa]) (by simp [Ay])))
     | (
      have hT:=hT9 (by omega) (by omega)
      rw [hT] at h4 ht
      simp only at h4 ht
      rw [if_neg (by omega),if_neg (by omega)] at h4
      refine ⟨(i+(escR (s.drop i)).2,g,out ++ utf (escR (s.drop i)).1),⟨by simp only;omega,by simp only;omega,by simp only;omega,by simp only [List.length_append];omega,h4⟩,by simp only;omega,?_⟩
      simp only;rw [Ik (hnn _),Gz,List.length_append];exact (St.le_slots (by simp only [Ap,Ar,Ao,Aj,Af,Nat.reduceEqDiff,reduceIte,Nat.reduceLT,Nat.reduceLeDiff];simp (disch:=omega) [Af,Ai,Au,Aa] <;> (repeat' apply And.intro) <;> omega) (by simp (disch:=omega) [Az,A3,Aw,Am,Af,Ai,Au,Aa]) (by simp [Ay])))
end Go.LX
set_option maxRecDepth 100000
set_option maxHeartbeats 2000000
namespace Go.LX
open Go Go.RowKit Go.Proofs
attribute [local irreducible] Al SWP Bi
theorem Uz {s:List UInt8} {i:Nat} (h:rlen s i≠0) (hi:i<s.length):(utf (code s i)).length=rlen s i:=by
 have h1:=M4 s i hi
 rw [H5 h hi]
 simp;omega
def letR (r:Int):Option Nat :=
 if r=34 then some 34 else if r=92 then some 92 else if r=8 then some 98 else if r=12 then some 102 else if r=10 then some 110 else if r=13 then some 114 else if r=9 then some 116 else none
def letN:Nat→Nat
 | 0=>34 | 1=>92 | 2=>47 | 3=>8 | 4=>12 | 5=>10 | 6=>13 | 7=>9 | _=>0
theorem M9 {i:Nat} {p:PV×PV} (h:Ei[i]? = some p):i<8∧∃ c r:Nat,p=(.int .u8 c,.int .i32 r):=by
 have hl:=(List.getElem?_eq_some_iff.1 h).1
 have h8:i<8:=hl
 refine ⟨h8,?_⟩
 have key:∀ j:Fin 8,∃ c r:Nat,Ei[j.val]? = some (.int .u8 c,.int .i32 r):=by
  intro j
  match j with
  | ⟨0,_⟩=>exact ⟨34,34,rfl⟩
  | ⟨1,_⟩=>exact ⟨92,92,rfl⟩
  | ⟨2,_⟩=>exact ⟨47,47,rfl⟩
  | ⟨3,_⟩=>exact ⟨98,8,rfl⟩
  | ⟨4,_⟩=>exact ⟨102,12,rfl⟩
  | ⟨5,_⟩=>exact ⟨110,10,rfl⟩
  | ⟨6,_⟩=>exact ⟨114,13,rfl⟩
  | ⟨7,_⟩=>exact ⟨116,9,rfl⟩
 obtain ⟨c,r,hk⟩:=key ⟨i,h8⟩
 rw [hk] at h
 exact ⟨c,r,(Option.some.inj h).symm⟩
theorem Jge {i j:Nat} {v w k:PV} (hi:Ei[i]? = some (v,k)) (hj:Ei[j]? = some (w,k)):i=j:=by
 obtain ⟨h1,a,r,e1⟩:=M9 hi
 obtain ⟨h2,b,q,e2⟩:=M9 hj
 obtain ⟨rfl,rfl⟩:=Prod.mk.inj e1
 obtain ⟨rfl,e3⟩:=Prod.mk.inj e2
 have hrq:r=q:=by injection e3 with _ h;omega
 subst hrq
 have key:∀ i j:Fin 8,∀ a b r:Nat,Ei[i.val]? = some (.int .u8 a,.int .i32 r)→Ei[j.val]? = some (.int .u8 b,.int .i32 r)→(letN i.val=r∧letN j.val=r):=by
  intro i j a b r hi hj
  have f:∀ k:Fin 8,∀ c q:Nat,Ei[k.val]? = some (.int .u8 c,.int .i32 q)→letN k.val=q:=by
   intro k c q h
   match k,h with
   | ⟨0,_⟩,h=>cases h;rfl
   | ⟨1,_⟩,h=>cases h;rfl
   | ⟨2,_⟩,h=>cases h;rfl
   | ⟨3,_⟩,h=>cases h;rfl
   | ⟨4,_⟩,h=>cases h;rfl
   | ⟨5,_⟩,h=>cases h;rfl
   | ⟨6,_⟩,h=>cases h;rfl
   | ⟨7,_⟩,h=>cases h;rfl
  exact ⟨f i a r hi,f j b r hj⟩
 obtain ⟨k1,k2⟩:=key ⟨i,h1⟩ ⟨j,h2⟩ a b r hi hj
 have inj:∀ i j:Fin 8,letN i.val=letN j.val→i=j:=by decide
 exact congrArg Fin.val (inj ⟨i,h1⟩ ⟨j,h2⟩ (k1.trans k2.symm))
theorem Jb8 {i:Nat} {v:PV} {r:Int} (h:Ei[i]? = some (v,.int .i32 r)):r=34∨r=92∨r=47∨r=8∨r=12∨r=10∨r=13∨r=9:=by
 obtain ⟨h8,_⟩:=M9 h
 have f:∀ k:Fin 8,Ei[k.val]? = some (v,.int .i32 r)→r=34∨r=92∨r=47∨r=8∨r=12∨r=10∨r=13∨r=9:=by
  intro k h
  match k,h with
  | ⟨0,_⟩,h=>cases h;simp
  | ⟨1,_⟩,h=>cases h;simp
  | ⟨2,_⟩,h=>cases h;simp
  | ⟨3,_⟩,h=>cases h;simp
  | ⟨4,_⟩,h=>cases h;simp
  | ⟨5,_⟩,h=>cases h;simp
  | ⟨6,_⟩,h=>cases h;simp
  | ⟨7,_⟩,h=>cases h;simp
 exact f ⟨i,h8⟩ h
def LetMap (es:List (PV×PV)):Prop:=∀ r:Int,(letR r=none∧Cl (.int .i32 r) es 0=some none)∨∃ i c,letR r=some c∧c≤116∧Cl (.int .i32 r) es 0=some (some (i,.int .u8 c))
theorem Jfl:Al cx 179 [] [] (fun m q=>q=[]∧∃ es,m=.p (.mp es)∧LetMap es):=by
 (refine Al.of_code (X:=cx) false [] (by simp) Tryz.func179 (by kernel_rfl) rfl (by simp only [List.length_cons,List.length_nil,Tryz.ntmps179];decide) (by simp) ?_;refine Ae hm _ _ _ ?_;simp only [Tryz.ntmps179,Tryz.results179,go_sem,Nat.reduceLT,Nat.reduceLeDiff,Nat.reduceEqDiff,Nat.reduceAdd,Nat.reduceSub,Nat.reduceMul,Nat.reduceBEq,Int.reduceToNat,Int.reduceLT,Int.reduceLE,Int.reduceEq,Int.reduceAdd,Int.reduceSub,Int.reduceNeg,↓reduceIte,reduceCtorEq])
 (repeat' (first | (refine iteI (fun h=>?_) (fun h=>?_))|(refine Ak (by first | omega | (simp (disch:=omega) only [Aa,Ab,Ac] at *;omega)) ?_;intro b hb)|(refine And.intro (by first | omega | (simp (disch:=omega) only [Aa,Ab,Ac] at *;omega)) ?_)|((first | (refine Ah hm (by rfl) (by kernel_rfl) ?_)|(refine Det.use (Kl) ?_)|(refine Det.useQ (Kl) ?_));simp only [go_sem,Nat.reduceLT,Nat.reduceEqDiff,↓reduceIte])|(exact True.intro)|(exfalso;omega)))
 refine SWP.loop (fun x:List (PV×PV)×List Nat=>⟨Ba 17 [(1,.mref 4),(6,.ptr 6 0 0)],[(6,.obj (.mit Ei x.2)),(4,.obj (.mp x.1))]⟩) (fun x=>MapF (Z5 .i32) x.1∧∀ k v,(k,v)∈x.1 ↔ ∃ i∈x.2,Ei[i]? = some (v,k)) (fun x=>Jo x.2 8) ([],[]) (St.le_slots (by simp only [Ap,Ar,Ao,Aj,Af,Nat.reduceEqDiff,reduceIte,Nat.reduceLT,Nat.reduceLeDiff];simp (disch:=omega) [Af,Ai,Au,Aa] <;> (repeat' apply And.intro) <;> omega) (by simp (disch:=omega) [Az,A3,Aw,Am,Af,Ai,Au,Aa]) (by simp [Ay])) ⟨MapF.nil,by simp⟩ ?_
 rintro ⟨es,seen⟩ ⟨h1,h2⟩
 simp only at h1 h2
 (refine Ae hm _ _ _ ?_;simp only [go_sem,Nat.reduceLT,Nat.reduceEqDiff,↓reduceIte])
 refine ⟨fun j p hj hns=>?_,fun hall=>?_⟩
 ·obtain ⟨h8,c,r,rfl⟩:=M9 hj
  refine ⟨_,hj,?_⟩
  obtain ⟨es',e1,g1,g2⟩:=Jhy (v:=.int .u8 c) (P1 .i32) (k:=.int .i32 r) ⟨_,rfl⟩ h1
  skip
  simp only [go_sem,Nat.reduceEqDiff,↓reduceIte,e1]
  refine ⟨(es',seen ++ [j]),⟨g1,fun k v=>?_⟩,S9 hns h8,(St.le_slots (by simp only [Ap,Ar,Ao,Aj,Af,Nat.reduceEqDiff,reduceIte,Nat.reduceLT,Nat.reduceLeDiff];simp (disch:=omega) [Af,Ai,Au,Aa] <;> (repeat' apply And.intro) <;> omega) (by simp (disch:=omega) [Az,A3,Aw,Am,Af,Ai,Au,Aa]) (by simp [Ay]))⟩
  rw [g2]
  constructor
  ·rintro (⟨rfl,rfl⟩ | ⟨_,hm⟩)
   ·exact ⟨j,by simp,hj⟩
   ·obtain ⟨i,hi,he⟩:=(h2 k v).1 hm
    exact ⟨i,by simp [hi],he⟩
  ·rintro ⟨i,hi,he⟩
   rw [List.mem_append,List.mem_singleton] at hi
   rcases hi with hi | rfl
   ·refine .inr ⟨fun hk=>?_,(h2 k v).2 ⟨i,hi,he⟩⟩
    subst hk
    have:=Jge he hj
    subst this
    exact hns hi
   ·rw [hj] at he
    have:=Prod.mk.inj (Option.some.inj he)
    exact .inl ⟨this.2.symm,this.1.symm⟩
 ·obtain ⟨es',e1,g1,g2⟩:=Jer (P1 .i32) (k:=.int .i32 47) ⟨_,rfl⟩ h1
  skip
  simp only [go_sem,Nat.reduceLT,Nat.reduceEqDiff,↓reduceIte,e1,e1]
  refine ⟨es',rfl,fun r=>?_⟩
  have inn:∀ (i:Nat) (c r:Int),Ei[i]? = some (.int .u8 c,.int .i32 r)→r≠47→∃ j,Cl (.int .i32 r) es' 0=some (some (j,.int .u8 c)):=fun i c r hi hr =>
   Jkm (P1 .i32) g1 ((g2 _ _).2 ⟨fun e=>hr (by injection e),(h2 _ _).2 ⟨i,hall i (List.getElem?_eq_some_iff.1 hi).1,hi⟩⟩)
  unfold letR
  by_cases c1:r=34
  ·subst c1;obtain ⟨j,hj⟩:=inn 0 34 34 rfl (by decide);exact .inr ⟨j,34,rfl,by decide,hj⟩
  by_cases c2:r=92
  ·subst c2;obtain ⟨j,hj⟩:=inn 1 92 92 rfl (by decide);exact .inr ⟨j,92,rfl,by decide,hj⟩
  by_cases c3:r=8
  ·subst c3;obtain ⟨j,hj⟩:=inn 3 98 8 rfl (by decide);exact .inr ⟨j,98,rfl,by decide,hj⟩
  by_cases c4:r=12
  ·subst c4;obtain ⟨j,hj⟩:=inn 4 102 12 rfl (by decide);exact .inr ⟨j,102,rfl,by decide,hj⟩
  by_cases c5:r=10
  ·subst c5;obtain ⟨j,hj⟩:=inn 5 110 10 rfl (by decide);exact .inr ⟨j,110,rfl,by decide,hj⟩
  by_cases c6:r=13
  ·subst c6;obtain ⟨j,hj⟩:=inn 6 114 13 rfl (by decide);exact .inr ⟨j,114,rfl,by decide,hj⟩
  by_cases c7:r=9
  ·subst c7;obtain ⟨j,hj⟩:=inn 7 116 9 rfl (by decide);exact .inr ⟨j,116,rfl,by decide,hj⟩
  refine .inl ⟨by simp [*],Jep (P1 .i32) ⟨_,rfl⟩ g1 fun v hv=>?_⟩
  obtain ⟨hne,hm⟩:=(g2 _ _).1 hv
  obtain ⟨i,_,hi⟩:=(h2 _ _).1 hm
  have h47:r≠47:=fun e=>hne (by rw [e])
  have:=Jb8 hi
  omega
end Go.LX
