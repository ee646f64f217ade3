/- Values that are right, the document's answer. -/
import Derived.Test.YtmejkfclabmijaaGreatDoorLxW
import Derived.Test.YtmejkfclabmijaaGreatDoorLxP
set_option linter.unusedSimpArgs false
set_option linter.unusedVariables false
set_option linter.unusedSectionVars false
set_option linter.unnecessarySimpa false
set_option maxRecDepth 100000
set_option maxHeartbeats 2000000
namespace Go.LX
open Go Go.RowKit Go.Proofs
attribute [local irreducible] Al SWP Bi
def nxtR (v:List Node) (i o:Nat):Int:=match nxt v.length (v.drop i) o with
 | some k=>((i+k:Nat):Int)
 | none=>-1
theorem Jha (v:List Node) (i:Nat):nxtR v i 0=i:=by
 unfold nxtR
 have:nxt v.length (v.drop i) 0=some 0:=by cases v.drop i <;> rfl
 rw [this];rfl
theorem Jmc {v:List Node} {i o:Nat} (h:v.length≤i) (ho:0<o):nxtR v i o = -1:=by
 unfold nxtR
 rw [List.drop_eq_nil_of_le h]
 cases o with
 | zero=>omega
 | succ o=>rfl
theorem Jlc {v:List Node} {i o:Nat} {n:Node} (h:v[i]? = some n) (ho:0<o) (hb:n.many<0∨(v.length:Int)<n.many):nxtR v i o = -1:=by
 have hi:=(List.getElem?_eq_some_iff.1 h).1
 unfold nxtR
 rw [List.drop_eq_getElem_cons hi,(List.getElem?_eq_some_iff.1 h).2]
 cases o with
 | zero=>omega
 | succ o=>simp only [nxt];rw [if_pos hb]
theorem Jfk {v:List Node} {i o:Nat} {n:Node} (h:v[i]? = some n) (hb:¬ (n.many<0∨(v.length:Int)<n.many)):nxtR v i (o+1)=nxtR v (i+1) (o+n.many.toNat):=by
 have hi:=(List.getElem?_eq_some_iff.1 h).1
 unfold nxtR
 rw [List.drop_eq_getElem_cons hi,(List.getElem?_eq_some_iff.1 h).2]
 simp only [nxt];rw [if_neg hb]
 cases nxt v.length (v.drop (i+1)) (o+n.many.toNat) with
 | none=>rfl
 | some k=>simp only [Option.map_some];omega
theorem U5 {v:List Node} {i:Nat} {n:Node} (h:v[i]? = some n):(valL v)[i]? = some [.int .i64 n.kind,.int .i64 n.many,.str n.name,.str n.s,.bool n.neg,.int .i64 n.e]:=by
 simp [valL,h,Node.cells]
theorem Uv (v:List Node) (hv:v.length≤10000):Det cx 65 [.p (.sl (valL v)),.p (.int .i64 0)] [] (.p (.int .i64 (nxtR v 0 1))) []:=by
 skip
 (refine Al.of_code (X:=cx) false [] (by simp) Tryz.func65 (by kernel_rfl) rfl (by simp only [List.length_cons,List.length_nil,Tryz.ntmps65];decide) (by simp) ?_;refine Ae hm _ _ _ ?_;simp only [Tryz.ntmps65,Tryz.results65,go_sem,Nat.reduceLT,Nat.reduceLeDiff,Nat.reduceEqDiff,Nat.reduceAdd,Nat.reduceSub,Nat.reduceMul,Nat.reduceBEq,Int.reduceToNat,Int.reduceLT,Int.reduceLE,Int.reduceEq,Int.reduceAdd,Int.reduceSub,Int.reduceNeg,↓reduceIte,reduceCtorEq,A7])
 refine SWP.loop (fun x:Nat×Nat=>⟨Ba 41 [(0,.p (.sl (valL v))),(1,.p (.int .i64 x.1)),(5,.p (.int .i64 x.2))],[]⟩) (fun x=>x.1≤v.length∧x.2≤1+x.1 * 10000∧nxtR v x.1 x.2=nxtR v 0 1) (fun x=>v.length - x.1) (0,1) (St.le_slots (by simp only [Ap,Ar,Ao,Aj,Af,Nat.reduceEqDiff,reduceIte,Nat.reduceLT,Nat.reduceLeDiff];simp (disch:=omega) [Af,Ai,Au,Aa] <;> (repeat' apply And.intro) <;> omega) (by simp (disch:=omega) [Az,A3,Aw,Am,Af,Ai,Au,Aa]) (by simp [Ay])) ⟨Nat.zero_le _,by simp,rfl⟩ ?_
 rintro ⟨i,o⟩ ⟨h1,h2,h3⟩
 simp only at h1 h2 h3
 by_cases ho:o=0
 ·subst ho
  rw [Jha] at h3
  (refine Ae hm _ _ _ ?_;simp only [go_sem,Nat.reduceLT,Nat.reduceEqDiff,Int.reduceNeg,↓reduceIte,reduceCtorEq,A7])
  (repeat' (first | (refine iteI (fun h=>?_) (fun h=>?_))|(refine Ak (by first | omega | (simp (disch:=omega) only [Aa,Ab,Ac] at *;omega)) ?_;intro b hb)|(refine And.intro (by first | omega | (simp (disch:=omega) only [Aa,Ab,Ac] at *;omega)) ?_)|((first | (refine Ah hm (by rfl) (by kernel_rfl) ?_));simp only [go_sem])|(exact True.intro)|(exfalso;omega)))
  rw [h3]
 ·have c0:((0:Int)<(o:Int))=True:=eq_true (by omega)
  by_cases hi:¬ i<v.length
  ·have c1:((v.length:Int)≤(i:Int))=True:=eq_true (by omega)
   rw [Jmc (by omega) (by omega)] at h3
   have hg:=c1
   have c2:=c1
   have c3:=c1
   have w1:=c1
   have w2:=c1
   have w3:=c1
   skip
   (refine Ae hm _ _ _ ?_;simp only [go_sem,Nat.reduceLT,Nat.reduceEqDiff,Int.reduceNeg,↓reduceIte,reduceCtorEq,A7,c0,c1])
   (repeat' (first | (refine iteI (fun h=>?_) (fun h=>?_))|(refine Ak (by first | omega | (simp (disch:=omega) only [Aa,Ab,Ac] at *;omega)) ?_;intro b hb)|(refine And.intro (by first | omega | (simp (disch:=omega) only [Aa,Ab,Ac] at *;omega)) ?_)|((first | (refine Ah hm (by rfl) (by kernel_rfl) ?_));simp only [go_sem])|(exact True.intro)|(exfalso;omega)))
   rw [← h3]
  ·have hi:=Decidable.not_not.1 hi
   have c1:((v.length:Int)≤(i:Int))=False:=eq_false (by omega)
   obtain ⟨n,hn⟩:∃ n,v[i]? = some n:=⟨_,List.getElem?_eq_getElem hi⟩
   have hg:=U5 hn
   by_cases hb:n.many<0∨(v.length:Int)<n.many
   ·rw [Jlc hn (by omega) hb] at h3
    have w1:=c1
    have w2:=c1
    have w3:=c1
    by_cases hb1:n.many<0
    ·have c2:(n.many<0)=True:=eq_true hb1
     have c3:=c1
     (refine Ae hm _ _ _ ?_;simp only [go_sem,Nat.reduceLT,Nat.reduceLeDiff,Nat.reduceEqDiff,Nat.reduceAdd,Int.reduceNeg,↓reduceIte,reduceCtorEq,A7,c0,c1,c2,hg])
     (repeat' (first | (refine iteI (fun h=>?_) (fun h=>?_))|(refine Ak (by first | omega | (simp (disch:=omega) only [Aa,Ab,Ac] at *;omega)) ?_;intro b hb)|(refine And.intro (by first | omega | (simp (disch:=omega) only [Aa,Ab,Ac] at *;omega)) ?_)|((first | (refine Ah hm (by rfl) (by kernel_rfl) ?_));simp only [go_sem])|(exact True.intro)|(exfalso;omega)))
     rw [← h3]
    ·have c2:(n.many<0)=False:=eq_false hb1
     have c3:((v.length:Int)<n.many)=True:=eq_true (by omega)
     (refine Ae hm _ _ _ ?_;simp only [go_sem,Nat.reduceLT,Nat.reduceLeDiff,Nat.reduceEqDiff,Nat.reduceAdd,Int.reduceNeg,↓reduceIte,reduceCtorEq,A7,c0,c1,c2,c3,hg])
     (repeat' (first | (refine iteI (fun h=>?_) (fun h=>?_))|(refine Ak (by first | omega | (simp (disch:=omega) only [Aa,Ab,Ac] at *;omega)) ?_;intro b hb)|(refine And.intro (by first | omega | (simp (disch:=omega) only [Aa,Ab,Ac] at *;omega)) ?_)|((first | (refine Ah hm (by rfl) (by kernel_rfl) ?_));simp only [go_sem])|(exact True.intro)|(exfalso;omega)))
     rw [← h3]
   ·have c2:(n.many<0)=False:=eq_false (by omega)
    have c3:((v.length:Int)<n.many)=False:=eq_false (by omega)
    obtain ⟨o',rfl⟩:∃ o',o=o'+1:=⟨o - 1,by omega⟩
    rw [Jfk hn hb] at h3
    have w1:IntKind.i64.wrap (((o'+1:Nat):Int) - 1)=(o':Int):=by rw [Aa (by omega) (by omega)];omega
    have w2:IntKind.i64.wrap ((o':Int)+n.many)=((o'+n.many.toNat:Nat):Int):=by rw [Aa (by omega) (by omega)];omega
    have w3:=wj1 (i:=i) (by omega)
    (refine Ae hm _ _ _ ?_;simp only [go_sem,Nat.reduceLT,Nat.reduceLeDiff,Nat.reduceEqDiff,Nat.reduceAdd,Int.reduceNeg,↓reduceIte,reduceCtorEq,A7,c0,c1,c2,c3,hg,w1,w2,w3])
    (repeat' (first | (refine And.intro (by first | omega | (simp;done)|(simp;omega)) ?_)))
    (repeat' (first | (refine iteI (fun h=>?_) (fun h=>?_))|(refine Ak (by first | omega | (simp (disch:=omega) only [Aa,Ab,Ac] at *;omega)) ?_;intro b hb)|(refine And.intro (by first | omega | (simp (disch:=omega) only [Aa,Ab,Ac] at *;omega)) ?_)|((first | (refine Ah hm (by rfl) (by kernel_rfl) ?_));simp only [go_sem])|(exact True.intro)|(exfalso;omega)))
    exact ⟨(i+1,o'+n.many.toNat),⟨by simp only;omega,by simp only;omega,h3⟩,by simp only;omega,(St.le_slots (by simp only [Ap,Ar,Ao,Aj,Af,Nat.reduceEqDiff,reduceIte,Nat.reduceLT,Nat.reduceLeDiff];simp (disch:=omega) [Af,Ai,Au,Aa] <;> (repeat' apply And.intro) <;> omega) (by simp (disch:=omega) [Az,A3,Aw,Am,Af,Ai,Au,Aa]) (by simp [Ay]))⟩
end Go.LX
set_option maxRecDepth 100000
set_option maxHeartbeats 2000000
namespace Go.LX
open Go Go.RowKit Go.Proofs
attribute [local irreducible] Al SWP Bi
theorem P8 {v:List Node} {i:Nat} {n:Node} (h:v[i]? = some n):(valL v)[i]? = some [.int .i64 n.kind,.int .i64 n.many,.str n.name,.str n.s,.bool n.neg,.int .i64 n.e]:=by
 simp [valL,h,Node.cells]
def Uw (x y:Node):Prop:=x.kind=y.kind∧x.many=y.many∧x.name=y.name∧x.s=y.s∧x.neg=y.neg∧x.e=y.e
theorem Qo {x y:Node}:Uw x y ↔ x=y:=by
 unfold Uw
 constructor
 ·rintro ⟨h1,h2,h3,h4,h5,h6⟩
  cases x;cases y
  simp_all
 ·rintro rfl;exact ⟨rfl,rfl,rfl,rfl,rfl,rfl⟩
instance (x y:Node):Decidable (Uw x y):=inferInstanceAs (Decidable (_∧_))
instance:DecidableEq Node:=fun x y=>decidable_of_iff _ (Qo (x:=x) (y:=y))
theorem Jma {x y:Node}:(x.kind == y.kind && (x.many == y.many && (x.name == y.name && (x.s == y.s && (x.neg == y.neg && x.e == y.e)))))=decide (x=y):=by
 rw [Bool.eq_iff_iff,decide_eq_true_eq,← Qo];simp [Uw]
theorem E2 (v u:List Node) (hv:v.length≤1000000) (hu:u.length≤1000000):Det cx 28 [.p (.sl (valL v)),.p (.sl (valL u))] [] (.p (.bool (decide (v=u)))) []:=by
 by_cases hl:v.length=u.length
 ·have c0:((v.length:Int)=(u.length:Int))=True:=eq_true (by omega)
  skip
  (refine Al.of_code (X:=cx) false [] (by simp) Tryz.func28 (by kernel_rfl) rfl (by simp only [List.length_cons,List.length_nil,Tryz.ntmps28];decide) (by simp) ?_;refine Ae hm _ _ _ ?_;simp only [Tryz.ntmps28,Tryz.results28,go_sem,Nat.reduceLT,Nat.reduceLeDiff,Nat.reduceEqDiff,Nat.reduceAdd,Nat.reduceSub,Nat.reduceMul,Nat.reduceBEq,Int.reduceToNat,Int.reduceLT,Int.reduceLE,Int.reduceEq,Int.reduceAdd,Int.reduceSub,Int.reduceNeg,↓reduceIte,reduceCtorEq,A7,c0,Jma,if_true,if_false])
  (repeat' (first | (refine iteI (fun h=>?_) (fun h=>?_))|(refine Ak (by first | omega | (simp (disch:=omega) only [Aa,Ab,Ac] at *;omega)) ?_;intro b hb)|(refine And.intro (by first | omega | (simp (disch:=omega) only [Aa,Ab,Ac] at *;omega)) ?_)|((first | (refine Ah hm (by rfl) (by kernel_rfl) ?_));simp only [go_sem])|(exact True.intro)|(exfalso;omega)))
  refine SWP.loop (fun i:Nat=>⟨Ba 26 [(0,.p (.sl (valL v))),(1,.p (.sl (valL u))),(5,.p (.int .i64 i))],[]⟩) (fun i=>i≤v.length∧v.take i=u.take i) (fun i=>v.length - i) 0 (St.le_slots (by simp only [Ap,Ar,Ao,Aj,Af,Nat.reduceEqDiff,reduceIte,Nat.reduceLT,Nat.reduceLeDiff];simp (disch:=omega) [Af,Ai,Au,Aa] <;> (repeat' apply And.intro) <;> omega) (by simp (disch:=omega) [Az,A3,Aw,Am,Af,Ai,Au,Aa]) (by simp [Ay])) ⟨Nat.zero_le _,rfl⟩ ?_
  rintro i ⟨h1,h3⟩
  by_cases hi:¬ i<v.length
  ·have c1:((i:Int)<(v.length:Int))=False:=eq_false (by omega)
   have hgx:=c1
   have hgy:=c1
   skip
   (refine Ae hm _ _ _ ?_;simp only [go_sem,Nat.reduceLT,Nat.reduceEqDiff,↓reduceIte,reduceCtorEq,A7,c1])
   (repeat' (first | (refine iteI (fun h=>?_) (fun h=>?_))|(refine Ak (by first | omega | (simp (disch:=omega) only [Aa,Ab,Ac] at *;omega)) ?_;intro b hb)|(refine And.intro (by first | omega | (simp (disch:=omega) only [Aa,Ab,Ac] at *;omega)) ?_)|((first | (refine Ah hm (by rfl) (by kernel_rfl) ?_));simp only [go_sem])|(exact True.intro)|(exfalso;omega)))
   rw [List.take_of_length_le (by omega),List.take_of_length_le (by omega)] at h3
   exact (decide_eq_true h3).symm
  ·have hi:=Decidable.not_not.1 hi
   have c1:((i:Int)<(v.length:Int))=True:=eq_true (by omega)
   obtain ⟨x,hx⟩:∃ x,v[i]? = some x:=⟨_,List.getElem?_eq_getElem hi⟩
   obtain ⟨y,hy⟩:∃ y,u[i]? = some y:=⟨_,List.getElem?_eq_getElem (by omega)⟩
   have hgx:=P8 hx
   have hgy:=P8 hy
   have w1:=wi1 (i:=i) (by omega)
   skip
   (refine Ae hm _ _ _ ?_;simp only [go_sem,Nat.reduceLT,Nat.reduceEqDiff,↓reduceIte,reduceCtorEq,A7,c1])
   (repeat' (first | (refine And.intro (by first | omega | (simp;done)|(simp;omega)) ?_)))
   (repeat' (first | (refine iteI (fun h=>?_) (fun h=>?_))|(refine Ak (by first | omega | (simp (disch:=omega) only [Aa,Ab,Ac] at *;omega)) ?_;intro b hb)|(refine And.intro (by first | omega | (simp (disch:=omega) only [Aa,Ab,Ac] at *;omega)) ?_)|((first | (refine Ah hm (by rfl) (by kernel_rfl) ?_));simp only [go_sem,Nat.reduceLT,Nat.reduceLeDiff,Nat.reduceEqDiff,Nat.reduceAdd,↓reduceIte,reduceCtorEq,Jma,hgx,hgy,w1])|(exact True.intro)|(exfalso;omega)))
   ·have hxy:=(show ¬ x=y by assumption)
    refine (decide_eq_false fun e=>hxy ?_).symm
    subst e;rw [hx] at hy;exact Option.some.inj hy
   ·have hxy:=Decidable.not_not.1 (show ¬ ¬ x=y by assumption)
    subst hxy
    refine ⟨i+1,⟨by omega,?_⟩,by omega,(St.le_slots (by simp only [Ap,Ar,Ao,Aj,Af,Nat.reduceEqDiff,reduceIte,Nat.reduceLT,Nat.reduceLeDiff];simp (disch:=omega) [Af,Ai,Au,Aa] <;> (repeat' apply And.intro) <;> omega) (by simp (disch:=omega) [Az,A3,Aw,Am,Af,Ai,Au,Aa]) (by simp [Ay]))⟩
    rw [List.take_add_one,List.take_add_one,h3,hx,hy]
 ·have c0:((v.length:Int)=(u.length:Int))=False:=eq_false (by omega)
  have c1:=c0
  have hgx:=c0
  have hgy:=c0
  have w1:=c0
  (refine Al.of_code (X:=cx) false [] (by simp) Tryz.func28 (by kernel_rfl) rfl (by simp only [List.length_cons,List.length_nil,Tryz.ntmps28];decide) (by simp) ?_;refine Ae hm _ _ _ ?_;simp only [Tryz.ntmps28,Tryz.results28,go_sem,Nat.reduceLT,Nat.reduceLeDiff,Nat.reduceEqDiff,Nat.reduceAdd,Nat.reduceSub,Nat.reduceMul,Nat.reduceBEq,Int.reduceToNat,Int.reduceLT,Int.reduceLE,Int.reduceEq,Int.reduceAdd,Int.reduceSub,Int.reduceNeg,↓reduceIte,reduceCtorEq,A7,c0,Jma,if_true,if_false,c1,hgx,hgy,w1])
  (repeat' (first | (refine iteI (fun h=>?_) (fun h=>?_))|(refine Ak (by first | omega | (simp (disch:=omega) only [Aa,Ab,Ac] at *;omega)) ?_;intro b hb)|(refine And.intro (by first | omega | (simp (disch:=omega) only [Aa,Ab,Ac] at *;omega)) ?_)|((first | (refine Ah hm (by rfl) (by kernel_rfl) ?_));simp only [go_sem])|(exact True.intro)|(exfalso;omega)))
  exact (decide_eq_false fun e=>hl (by rw [e])).symm
theorem Z3 (v:List Node) (i:Nat) (nm:List UInt8) (k:Int) (s:List UInt8) (g:Bool) (e:Int) (kids:Forest) (rest:List Node) (hv:v.length≤1000000) (h:v.drop i=(Tree.mk k s g e kids).enc nm ++ rest) (hs:∀ n∈v,n.name.length≤1000000):Det cx 67 [.p (.sl (valL v)),.p (.int .i64 i)] [] (.p (.bool (@decide (Eh k kids.list) (Classical.propDecidable _)))) []:=by
 have hll:=Forest.len_le kids
 rw [A6] at h
 have hg0:=D5 h
 rw [C9] at hg0
 have hb:=L9 h (by simp)
 simp only [List.cons_append,List.length_cons,List.length_append] at hb
 have w0:=wj1 (i:=i) (by omega)
 skip
 (refine Al.of_code (X:=cx) false [] (by simp) Tryz.func67 (by kernel_rfl) rfl (by simp only [List.length_cons,List.length_nil,Tryz.ntmps67];decide) (by simp) ?_;refine Ae hm _ _ _ ?_;simp only [Tryz.ntmps67,Tryz.results67,go_sem,Nat.reduceLT,Nat.reduceLeDiff,Nat.reduceEqDiff,Nat.reduceAdd,Nat.reduceSub,Nat.reduceMul,Nat.reduceBEq,Int.reduceToNat,Int.reduceLT,Int.reduceLE,Int.reduceEq,Int.reduceAdd,Int.reduceSub,Int.reduceNeg,↓reduceIte,reduceCtorEq,hg0,w0,A7,if_true,if_false])
 (repeat' (first | (refine iteI (fun h=>?_) (fun h=>?_))|(refine Ak (by first | omega | (simp (disch:=omega) only [Aa,Ab,Ac] at *;omega)) ?_;intro b hb)|(refine And.intro (by first | omega | (simp (disch:=omega) only [Aa,Ab,Ac] at *;omega)) ?_)|((first | (refine Ah hm (by rfl) (by kernel_rfl) ?_));simp only [go_sem])|(exact True.intro)|(exfalso;omega)))
 refine SWP.loop (fun x:Nat×Nat×Forest=>⟨Ba 75 [(0,.p (.sl (valL v))),(1,.p (.int .i64 i)),(5,.p (.int .i64 x.2.1)),(6,.p (.int .i64 x.1))],[]⟩) (fun x=>x.1+x.2.2.len=kids.len∧v.drop x.2.1=x.2.2.enc ++ rest∧x.2.1+x.2.2.enc.length=i+1+kids.enc.length∧(Eh k kids.list ↔ Eh k x.2.2.list)) (fun x=>x.2.2.enc.length) (0,i+1,kids) (St.le_slots (by simp only [Ap,Ar,Ao,Aj,Af,Nat.reduceEqDiff,reduceIte,Nat.reduceLT,Nat.reduceLeDiff];simp (disch:=omega) [Af,Ai,Au,Aa] <;> (repeat' apply And.intro) <;> omega) (by simp (disch:=omega) [Az,A3,Aw,Am,Af,Ai,Au,Aa]) (by simp [Ay])) ⟨by simp,by simp only;rw [← List.drop_drop,h];rfl,by simp only,Iff.rfl⟩ ?_
 rintro ⟨j,a,F⟩ ⟨h1,h2,h3,h4⟩
 simp only at h1 h2 h3 h4
 match F,h1,h2,h3,h4 with
 | .nil,h1,h2,h3,h4 =>
  simp only [Forest.len] at h1
  have c1:((j:Int)<(kids.len:Int))=False:=eq_false (by omega)
  have hK:=h4.2 (Sb k)
  have hga:=c1
  have w1:=c1
  have c7:=c1
  have hgb:=c1
  skip
  (refine Ae hm _ _ _ ?_;simp only [go_sem,Nat.reduceLT,Nat.reduceLeDiff,Nat.reduceEqDiff,Nat.reduceAdd,↓reduceIte,reduceCtorEq,hg0,c1])
  (repeat' (first | (refine iteI (fun h=>?_) (fun h=>?_))|(refine Ak (by first | omega | (simp (disch:=omega) only [Aa,Ab,Ac] at *;omega)) ?_;intro b hb)|(refine And.intro (by first | omega | (simp (disch:=omega) only [Aa,Ab,Ac] at *;omega)) ?_)|((first | (refine Ah hm (by rfl) (by kernel_rfl) ?_));simp only [go_sem])|(exact True.intro)|(exfalso;omega)))
  exact (@decide_eq_true _ (Classical.propDecidable _) hK).symm
 | .cons nm' t r,h1,h2,h3,h4 =>
  rw [F2] at h1
  rw [A0] at h2 h3
  have hp:=Et t nm'
  simp only [List.length_append] at h3
  obtain ⟨k',n',s',g',e',hga⟩:∃ k' n' s' g' e',(valL v)[a]? = some [.int .i64 k',.int .i64 n',.str nm',.str s',.bool g',.int .i64 e']:=Mi (t:=t) (b:=r.enc ++ rest) (by rw [h2,List.append_assoc])
  have c1:((j:Int)<(kids.len:Int))=True:=eq_true (by omega)
  rw [Forest.list,Jaa] at h4
  simp only at h4
  have w1:=wj1 (i:=j) (by omega)
  have hnl:nm'.length≤1000000:=by
   have:v[a]? = some ⟨k',n',nm',s',g',e'⟩:=by
    cases hva:v[a]? with
    | none=>simp [valL,hva] at hga
    | some n =>
     have:=P8 hva
     rw [hga] at this
     simp only [Option.some.injEq,List.cons.injEq,PV.int.injEq,PV.str.injEq,PV.bool.injEq,true_and,and_true] at this
     obtain ⟨h1,h2,h3,h4,h5,h6⟩:=this
     congr 1;cases n;simp_all
   exact hs _ (List.mem_of_getElem? this)
  have hNx:=Cs v a nm' t (r.enc ++ rest) hv (by rw [h2,List.append_assoc])
  have hno:((k=5→nm'=[])∧valid nm'=true∧(k=6→∀ q,r.list.head? = some q→Op.bytesLess nm' q.1=true)∧Eh k r.list→False)→(false = @decide (Eh k kids.list) (Classical.propDecidable _)):=fun h=>((@decide_eq_false_iff_not _ (Classical.propDecidable _)).2 fun hk=>h (h4.1 hk)).symm
  have hd:v.drop (a+(t.enc nm').length)=r.enc ++ rest:=by rw [← List.drop_drop,h2,List.append_assoc,List.drop_left]
  match r,h1,h2,h3,h4,hNx,hno,hd with
  | .nil,h1,h2,h3,h4,hNx,hno,hd =>
   simp only [Forest.len] at h1
   have c7:(((j+1:Nat):Int)<(kids.len:Int))=False:=eq_false (by omega)
   have hgb:=c1
   (refine Ae hm _ _ _ ?_;simp only [go_sem,Nat.reduceLT,Nat.reduceLeDiff,Nat.reduceEqDiff,Nat.reduceAdd,↓reduceIte,reduceCtorEq,hg0,c1,hga])
   (repeat' (first | (refine iteI (fun h=>?_) (fun h=>?_))|(refine Ak (by first | omega | (simp (disch:=omega) only [Aa,Ab,Ac] at *;omega)) ?_;intro b hb)|(refine And.intro (by first | omega | (simp (disch:=omega) only [Aa,Ab,Ac] at *;omega)) ?_)|((first | (refine Ah hm (by rfl) (by kernel_rfl) ?_)|(refine Det.use (Cn nm' hnl) ?_)|(refine Det.useQ (Cn nm' hnl) ?_)|(refine Det.use (hNx) ?_)|(refine Det.useQ (hNx) ?_)|(refine Ag.use (hNx) ?_)|(refine Ad.use (hNx) ?_));simp only [go_sem,Nat.reduceLT,Nat.reduceLeDiff,Nat.reduceEqDiff,Nat.reduceAdd,↓reduceIte,reduceCtorEq,hg0,w1,c7])|(exact True.intro)|(exfalso;omega)))
   all_goals first
    | (
     refine hno ?_
     rintro ⟨a1,a2,a3,a4⟩
     have h9:=(show valid nm'=false by assumption)
     rw [a2] at h9;cases h9)
    | (
     refine hno ?_
     rintro ⟨a1,a2,a3,a4⟩
     clear hno hNx h4 hga hg0 hd h2 hs
     simp_all)
    | (
     refine ⟨(j+1,a+(t.enc nm').length,.nil),⟨by simp only [Forest.len];omega,hd,by simp only;omega,h4.trans ⟨fun q=>q.2.2.2,fun q=>⟨?_,?_,fun _ q hq=>(by cases hq),q⟩⟩⟩,by simp only [A0,List.length_append];omega,(St.le_slots (by simp only [Ap,Ar,Ao,Aj,Af,Nat.reduceEqDiff,reduceIte,Nat.reduceLT,Nat.reduceLeDiff];simp (disch:=omega) [Af,Ai,Au,Aa] <;> (repeat' apply And.intro) <;> omega) (by simp (disch:=omega) [Az,A3,Aw,Am,Af,Ai,Au,Aa]) (by simp [Ay]))⟩
     all_goals (clear hno hNx h4 hga hg0 hd h2 hs;simp_all))
  | .cons nm2 t2 r2,h1,h2,h3,h4,hNx,hno,hd =>
   simp only [Forest.len] at h1
   have c7:(((j+1:Nat):Int)<(kids.len:Int))=True:=eq_true (by omega)
   obtain ⟨k2,n2,s2,g2,e2,hgb⟩:∃ k' n' s' g' e',(valL v)[a+(t.enc nm').length]? = some [.int .i64 k',.int .i64 n',.str nm2,.str s',.bool g',.int .i64 e']:=Mi (t:=t2) (b:=r2.enc ++ rest) (by rw [hd,A0,List.append_assoc])
   (refine Ae hm _ _ _ ?_;simp only [go_sem,Nat.reduceLT,Nat.reduceLeDiff,Nat.reduceEqDiff,Nat.reduceAdd,↓reduceIte,reduceCtorEq,hg0,c1,hga])
   (repeat' (first | (refine iteI (fun h=>?_) (fun h=>?_))|(refine Ak (by first | omega | (simp (disch:=omega) only [Aa,Ab,Ac] at *;omega)) ?_;intro b hb)|(refine And.intro (by first | omega | (simp (disch:=omega) only [Aa,Ab,Ac] at *;omega)) ?_)|((first | (refine Ah hm (by rfl) (by kernel_rfl) ?_)|(refine Det.use (Cn nm' hnl) ?_)|(refine Det.useQ (Cn nm' hnl) ?_)|(refine Det.use (hNx) ?_)|(refine Det.useQ (hNx) ?_)|(refine Ag.use (hNx) ?_)|(refine Ad.use (hNx) ?_));simp only [go_sem,Nat.reduceLT,Nat.reduceLeDiff,Nat.reduceEqDiff,Nat.reduceAdd,↓reduceIte,reduceCtorEq,hg0,hga,w1,c7,hgb])|(exact True.intro)|(exfalso;omega)))
   all_goals first
    | (
     refine hno ?_
     rintro ⟨a1,a2,a3,a4⟩
     have h9:=(show valid nm'=false by assumption)
     rw [a2] at h9;cases h9)
    | (
     refine hno ?_
     rintro ⟨a1,a2,a3,a4⟩
     have a5:=fun hk=>a3 hk (nm2,t2) rfl
     clear a3 hno hNx h4 hga hg0 hd h2 hs hgb
     simp_all)
    | (
     refine ⟨(j+1,a+(t.enc nm').length,.cons nm2 t2 r2),⟨by simp only [Forest.len];omega,hd,by simp only;omega,h4.trans ⟨fun q=>q.2.2.2,fun q=>⟨?_,?_,fun hk q hq=>?_,q⟩⟩⟩,by simp only [A0,List.length_append];omega,(St.le_slots (by simp only [Ap,Ar,Ao,Aj,Af,Nat.reduceEqDiff,reduceIte,Nat.reduceLT,Nat.reduceLeDiff];simp (disch:=omega) [Af,Ai,Au,Aa] <;> (repeat' apply And.intro) <;> omega) (by simp (disch:=omega) [Az,A3,Aw,Am,Af,Ai,Au,Aa]) (by simp [Ay]))⟩
     all_goals (clear hno hNx h4 hga hg0 hd h2 hs hgb)
     all_goals first
      | (simp_all;done)
      | (simp only [Forest.list,List.head?_cons,Option.some.injEq] at hq;subst hq;simp_all))
end Go.LX
set_option maxRecDepth 100000
set_option maxHeartbeats 2000000
namespace Go.LX
open Go Go.RowKit Go.Proofs
attribute [local irreducible] Al SWP Bi
theorem Jda:∀ {a b c d:Forest},a.app b=c.app d→a.len=c.len→a=c∧b=d
 | .nil,b,.nil,d,h,_=>⟨rfl,h⟩
 | .nil,_,.cons _ _ _,_,_,h=>by simp [Forest.len] at h
 | .cons _ _ _,_,.nil,_,_,h=>by simp [Forest.len] at h
 | .cons nm t a,b,.cons nm' t' c,d,h,hl=>by
  rw [Forest.app,Forest.app] at h
  injection h with h1 h2 h3
  obtain ⟨rfl,rfl⟩:=Jda (a:=a) (b:=b) (c:=c) (d:=d) h3 (by simpa [Forest.len] using hl)
  exact ⟨by rw [h1,h2],rfl⟩
theorem W5:∀ (n:Nat) {F G:Forest},F.enc.length≤n→F.len=G.len→F.enc=G.enc→F=G
 | _,.nil,.nil,_,_,_=>rfl
 | _,.nil,.cons _ _ _,_,h,_=>by simp [Forest.len] at h
 | _,.cons _ _ _,.nil,_,h,_=>by simp [Forest.len] at h
 | 0,.cons nm t r,.cons _ _ _,h,_,_=>by
  have:=Et t nm
  rw [A0,List.length_append] at h;omega
 | n+1,.cons nm (.mk k s g e kids) r,.cons nm' (.mk k' s' g' e' kids') r',h,hl,he=>by
  rw [A0,A6,List.length_append,List.length_cons] at h
  rw [A0,A0,A6,A6,List.cons_append,List.cons_append] at he
  injection he with h1 h2
  injection h1 with g1 g2 g3 g4 g5 g6
  rw [← Forest.enc_app,← Forest.enc_app] at h2
  simp only [Forest.len] at hl
  have hk:kids.len=kids'.len:=by omega
  have:=W5 n (F:=kids.app r) (G:=kids'.app r') (by rw [Forest.enc_app,List.length_append];omega) (by rw [Forest.len_app,Forest.len_app];omega) h2
  obtain ⟨rfl,rfl⟩:=Jda this hk
  rw [g1,g3,g4,g5,g6]
theorem Jmz {t u:Tree} {a b:List UInt8} (h:t.enc a=u.enc b):a=b∧t=u:=by
 have:=W5 (Forest.cons a t .nil).enc.length (F:=.cons a t .nil) (G:=.cons b u .nil) (Nat.le_refl _) rfl (by rw [A0,A0,h])
 injection this with h1 h2 _
 exact ⟨h1,h2⟩
theorem Jf9 {t:Tree}:R0 (t.enc []) ↔ okT t:=by
 constructor
 ·rintro ⟨u,hu,h⟩
  obtain ⟨_,rfl⟩:=Jmz h;exact hu
 ·exact fun h=>⟨t,h,rfl⟩
theorem Zg {v:List Node} (h:R0 v):nxtR v 0 1=v.length:=by
 obtain ⟨t,_,rfl⟩:=h
 have:=Jcx.2 ⟨[],t,rfl⟩
 unfold nxtR
 rw [List.drop_zero,this];simp
theorem Jf6 {v:List Node} (h:nxtR v 0 1=v.length):∃ nm t,v=Tree.enc nm t:=by
 refine Jcx.1 ?_
 unfold nxtR at h
 rw [List.drop_zero] at h
 cases hn:nxt v.length v 1 with
 | none=>rw [hn] at h;simp at h
 | some k=>rw [hn] at h;simp at h;rw [show k=v.length by omega]
structure NodeFit (n:Node):Prop where
 s:n.s.length≤1000000
 name:n.name.length≤1000000
 e0:-9223372036854775808≤n.e
 e1:n.e≤9223372036854775807
theorem I8 {v:List Node} (h:¬ R0 v):false=Jw v:=by
 cases hb:Jw v with
 | false=>rfl
 | true=>exact absurd (Iq.1 hb) h
theorem Jp (v:List Node) (hv:v.length≤10000) (hf:∀ n∈v,NodeFit n):Det cx 31 [.p (.sl (valL v))] [] (.p (.bool (Jw v))) []:=by
 cases v with
 | nil =>
  have hb:false=Jw []:=I8 (by
   rintro ⟨t,_,h⟩
   have:=congrArg List.length h
   have h1:=Et t []
   simp at this;omega)
  have hg0:True:=trivial
  have c0:=hg0
  have c1:=hg0
  have c2:=hg0
  have c3:=hg0
  skip
  (refine Al.of_code (X:=cx) false [] (by simp) Tryz.func31 (by kernel_rfl) rfl (by simp only [List.length_cons,List.length_nil,Tryz.ntmps31];decide) (by simp) ?_;refine Ae hm _ _ _ ?_;simp only [Tryz.ntmps31,Tryz.results31,go_sem,Nat.reduceLT,Nat.reduceLeDiff,Nat.reduceEqDiff,Nat.reduceAdd,Nat.reduceSub,Nat.reduceMul,Nat.reduceBEq,Int.reduceToNat,Int.reduceLT,Int.reduceLE,Int.reduceEq,Int.reduceAdd,Int.reduceSub,Int.reduceNeg,↓reduceIte,reduceCtorEq,A7,hg0,c0,c1,c2,c3,if_true,if_false])
  (repeat' (first | (refine iteI (fun h=>?_) (fun h=>?_))|(refine Ak (by first | omega | (simp (disch:=omega) only [Aa,Ab,Ac] at *;omega)) ?_;intro b hb)|(refine And.intro (by first | omega | (simp (disch:=omega) only [Aa,Ab,Ac] at *;omega)) ?_)|((first | (refine Ah hm (by rfl) (by kernel_rfl) ?_));simp only [go_sem])|(exact True.intro)|(exfalso;omega)))
  exact hb
 | cons n r =>
  have hg0:=U5 (v:=n :: r) (i:=0) (n:=n) rfl
  have c0:(((n :: r).length:Int)=0)=False:=eq_false (by simp;omega)
  have c1:((0:Int)<((n :: r).length:Int))=True:=eq_true (by simp)
  have hN:=Uv (n :: r) hv
  generalize hvv:n :: r=v at *
  by_cases hnm:n.name=[]
  ·by_cases hnx:nxtR v 0 1=v.length
   ·obtain ⟨nm,t,ht⟩:=Jf6 hnx
    have hnm0:nm=[]:=by
     cases t with
     | mk k s g e kids =>
      rw [A6,← hvv] at ht
      have:=(List.cons.inj ht).1
      rw [this] at hnm;exact hnm
    subst hnm0
    have c2:(n.name=[])=True:=eq_true hnm
    have c3:(nxtR v 0 1=(v.length:Int))=True:=eq_true hnx
    (refine Al.of_code (X:=cx) false [] (by simp) Tryz.func31 (by kernel_rfl) rfl (by simp only [List.length_cons,List.length_nil,Tryz.ntmps31];decide) (by simp) ?_;refine Ae hm _ _ _ ?_;simp only [Tryz.ntmps31,Tryz.results31,go_sem,Nat.reduceLT,Nat.reduceLeDiff,Nat.reduceEqDiff,Nat.reduceAdd,Nat.reduceSub,Nat.reduceMul,Nat.reduceBEq,Int.reduceToNat,Int.reduceLT,Int.reduceLE,Int.reduceEq,Int.reduceAdd,Int.reduceSub,Int.reduceNeg,↓reduceIte,reduceCtorEq,A7,hg0,c0,c1,c2,c3,if_true,if_false])
    (repeat' (first | (refine iteI (fun h=>?_) (fun h=>?_))|(refine Ak (by first | omega | (simp (disch:=omega) only [Aa,Ab,Ac] at *;omega)) ?_;intro b hb)|(refine And.intro (by first | omega | (simp (disch:=omega) only [Aa,Ab,Ac] at *;omega)) ?_)|((first | (refine Ah hm (by rfl) (by kernel_rfl) ?_)|(refine Det.use (hN) ?_)|(refine Det.useQ (hN) ?_)|(refine Ag.use (hN) ?_)|(refine Ad.use (hN) ?_));simp only [go_sem,Nat.reduceLT,Nat.reduceEqDiff,↓reduceIte,reduceCtorEq,A7,c3])|(exact True.intro)|(exfalso;omega)))
    have hB:∀ b:Bool,(b=true ↔ okT t)→b=Jw v:=by
     intro b hb
     rw [Bool.eq_iff_iff,hb,Iq,ht,Jf9]
    have hend:∀ {i:Nat} {F:Forest},i+F.enc.length=v.length→True:=fun _=>trivial
    refine SWP.loop (fun x:Nat×Forest=>⟨Ba 39 [(0,.p (.sl (valL v))),(3,.p (.int .i64 x.1))],[]⟩) (fun x=>v.drop x.1=x.2.enc∧x.1+x.2.enc.length=v.length∧(okT t ↔ okF x.2)) (fun x=>v.length - x.1) (0,.cons [] t .nil) (St.le_slots (by simp only [Ap,Ar,Ao,Aj,Af,Nat.reduceEqDiff,reduceIte,Nat.reduceLT,Nat.reduceLeDiff];simp (disch:=omega) [Af,Ai,Au,Aa] <;> (repeat' apply And.intro) <;> omega) (by simp (disch:=omega) [Az,A3,Aw,Am,Af,Ai,Au,Aa]) (by simp [Ay])) ⟨by rw [A0,Bl,List.append_nil,List.drop_zero,ht],by rw [A0,Bl,List.append_nil,ht];simp,by rw [Fs];exact ⟨fun h=>⟨h,I6⟩,fun h=>h.1⟩⟩ ?_
    rintro ⟨i,F⟩ ⟨h1,h2,h3⟩
    simp only at h1 h2 h3
    match F,h1,h2,h3 with
    | .nil,h1,h2,h3 =>
     rw [Bl] at h2
     have c4:((i:Int)<(v.length:Int))=False:=eq_false (by simp at h2;omega)
     have hga:=c4
     have w1:=c4
     skip
     (refine Ae hm _ _ _ ?_;simp only [go_sem,Nat.reduceLT,Nat.reduceEqDiff,↓reduceIte,reduceCtorEq,A7,c4])
     (repeat' (first | (refine iteI (fun h=>?_) (fun h=>?_))|(refine Ak (by first | omega | (simp (disch:=omega) only [Aa,Ab,Ac] at *;omega)) ?_;intro b hb)|(refine And.intro (by first | omega | (simp (disch:=omega) only [Aa,Ab,Ac] at *;omega)) ?_)|((first | (refine Ah hm (by rfl) (by kernel_rfl) ?_));simp only [go_sem])|(exact True.intro)|(exfalso;omega)))
     exact hB true (by rw [h3];simp [I6])
    | .cons nm' (.mk k s g e kids) r,h1,h2,h3 =>
     rw [A0,A6] at h1 h2
     simp only [List.length_append,List.length_cons] at h2
     have c4:((i:Int)<(v.length:Int))=True:=eq_true (by omega)
     have hga:=D5 h1
     rw [C9] at hga
     have w1:=wj1 (i:=i) (by omega)
     rw [Jjp] at h3
     have hmem:(⟨k,kids.len,nm',s,g,e⟩:Node)∈v:=by
      have:(⟨k,kids.len,nm',s,g,e⟩:Node)∈v.drop i:=by rw [h1];simp
      exact List.mem_of_mem_drop this
     have hfn:=hf _ hmem
     have hpl:=Ja1 k kids.len nm' s g e hfn.s hfn.e0 hfn.e1
     have hri:=Z3 v i nm' k s g e kids r.enc (by omega) (by rw [h1,A6]) fun n hn=>(hf n hn).name
     have hcont:(okT t ↔ okF (kids.app r))→∃ y:Nat×Forest,(v.drop y.1=y.2.enc∧y.1+y.2.enc.length=v.length∧(okT t ↔ okF y.2))∧v.length - y.1<v.length - i∧y=(i+1,kids.app r):=fun h =>
      ⟨(i+1,kids.app r),⟨by simp only;rw [← List.drop_drop,h1,Forest.enc_app];rfl,by simp only;rw [Forest.enc_app,List.length_append];omega,h⟩,by simp only;omega,rfl⟩
     by_cases hn1:G3 k s g e kids.len
     ·rw [decide_eq_true hn1] at hpl
      by_cases hk1:Eh k kids.list
      ·rw [@decide_eq_true _ (Classical.propDecidable _) hk1] at hri
       (refine Ae hm _ _ _ ?_;simp only [go_sem,Nat.reduceLT,Nat.reduceLeDiff,Nat.reduceEqDiff,Nat.reduceAdd,↓reduceIte,reduceCtorEq,A7,c4,hga])
       (repeat' (first | (refine iteI (fun h=>?_) (fun h=>?_))|(refine Ak (by first | omega | (simp (disch:=omega) only [Aa,Ab,Ac] at *;omega)) ?_;intro b hb)|(refine And.intro (by first | omega | (simp (disch:=omega) only [Aa,Ab,Ac] at *;omega)) ?_)|((first | (refine Ah hm (by rfl) (by kernel_rfl) ?_)|(refine Det.use (hpl) ?_)|(refine Det.useQ (hpl) ?_)|(refine Ag.use (hpl) ?_)|(refine Ad.use (hpl) ?_)|(refine Det.use (hri) ?_)|(refine Det.useQ (hri) ?_)|(refine Ag.use (hri) ?_)|(refine Ad.use (hri) ?_));simp only [go_sem,Nat.reduceLT,Nat.reduceEqDiff,↓reduceIte,reduceCtorEq,w1])|(exact True.intro)|(exfalso;omega)))
       obtain ⟨y,p1,p2,rfl⟩:=hcont (h3.trans ⟨fun h=>h.2.2,fun h=>⟨hn1,hk1,h⟩⟩)
       exact ⟨_,p1,p2,(St.le_slots (by simp only [Ap,Ar,Ao,Aj,Af,Nat.reduceEqDiff,reduceIte,Nat.reduceLT,Nat.reduceLeDiff];simp (disch:=omega) [Af,Ai,Au,Aa] <;> (repeat' apply And.intro) <;> omega) (by simp (disch:=omega) [Az,A3,Aw,Am,Af,Ai,Au,Aa]) (by simp [Ay]))⟩
      ·rw [@decide_eq_false _ (Classical.propDecidable _) hk1] at hri
       (refine Ae hm _ _ _ ?_;simp only [go_sem,Nat.reduceLT,Nat.reduceLeDiff,Nat.reduceEqDiff,Nat.reduceAdd,↓reduceIte,reduceCtorEq,A7,c4,hga])
       (repeat' (first | (refine iteI (fun h=>?_) (fun h=>?_))|(refine Ak (by first | omega | (simp (disch:=omega) only [Aa,Ab,Ac] at *;omega)) ?_;intro b hb)|(refine And.intro (by first | omega | (simp (disch:=omega) only [Aa,Ab,Ac] at *;omega)) ?_)|((first | (refine Ah hm (by rfl) (by kernel_rfl) ?_)|(refine Det.use (hpl) ?_)|(refine Det.useQ (hpl) ?_)|(refine Ag.use (hpl) ?_)|(refine Ad.use (hpl) ?_)|(refine Det.use (hri) ?_)|(refine Det.useQ (hri) ?_)|(refine Ag.use (hri) ?_)|(refine Ad.use (hri) ?_));simp only [go_sem,Nat.reduceLT,Nat.reduceEqDiff,↓reduceIte,reduceCtorEq])|(exact True.intro)|(exfalso;omega)))
       exact hB false (by rw [h3];simp [hk1])
     ·rw [decide_eq_false hn1] at hpl
      (refine Ae hm _ _ _ ?_;simp only [go_sem,Nat.reduceLT,Nat.reduceLeDiff,Nat.reduceEqDiff,Nat.reduceAdd,↓reduceIte,reduceCtorEq,A7,c4,hga])
      (repeat' (first | (refine iteI (fun h=>?_) (fun h=>?_))|(refine Ak (by first | omega | (simp (disch:=omega) only [Aa,Ab,Ac] at *;omega)) ?_;intro b hb)|(refine And.intro (by first | omega | (simp (disch:=omega) only [Aa,Ab,Ac] at *;omega)) ?_)|((first | (refine Ah hm (by rfl) (by kernel_rfl) ?_)|(refine Det.use (hpl) ?_)|(refine Det.useQ (hpl) ?_)|(refine Ag.use (hpl) ?_)|(refine Ad.use (hpl) ?_)|(refine Det.use (hri) ?_)|(refine Det.useQ (hri) ?_)|(refine Ag.use (hri) ?_)|(refine Ad.use (hri) ?_));simp only [go_sem,Nat.reduceLT,Nat.reduceEqDiff,↓reduceIte])|(exact True.intro)|(exfalso;omega)))
      exact hB false (by rw [h3];simp [hn1])
   ·have c2:(n.name=[])=True:=eq_true hnm
    have c3:(nxtR v 0 1=(v.length:Int))=False:=eq_false hnx
    have hb:=I8 (v:=v) fun h=>hnx (Zg h)
    have c4:=hg0
    have hga:=hg0
    have w1:=hg0
    (refine Al.of_code (X:=cx) false [] (by simp) Tryz.func31 (by kernel_rfl) rfl (by simp only [List.length_cons,List.length_nil,Tryz.ntmps31];decide) (by simp) ?_;refine Ae hm _ _ _ ?_;simp only [Tryz.ntmps31,Tryz.results31,go_sem,Nat.reduceLT,Nat.reduceLeDiff,Nat.reduceEqDiff,Nat.reduceAdd,Nat.reduceSub,Nat.reduceMul,Nat.reduceBEq,Int.reduceToNat,Int.reduceLT,Int.reduceLE,Int.reduceEq,Int.reduceAdd,Int.reduceSub,Int.reduceNeg,↓reduceIte,reduceCtorEq,A7,hg0,c0,c1,c2,c3,if_true,if_false,c4,hga,w1])
    (repeat' (first | (refine iteI (fun h=>?_) (fun h=>?_))|(refine Ak (by first | omega | (simp (disch:=omega) only [Aa,Ab,Ac] at *;omega)) ?_;intro b hb)|(refine And.intro (by first | omega | (simp (disch:=omega) only [Aa,Ab,Ac] at *;omega)) ?_)|((first | (refine Ah hm (by rfl) (by kernel_rfl) ?_)|(refine Det.use (hN) ?_)|(refine Det.useQ (hN) ?_)|(refine Ag.use (hN) ?_)|(refine Ad.use (hN) ?_));simp only [go_sem,Nat.reduceLT,Nat.reduceEqDiff,↓reduceIte,reduceCtorEq,A7,c3])|(exact True.intro)|(exfalso;omega)))
    exact hb
  ·have c2:(n.name=[])=False:=eq_false hnm
   have c3:=c2
   have c4:=hg0
   have hga:=hg0
   have w1:=hg0
   have hb:=I8 (v:=v) (by
    rintro ⟨t,_,h⟩
    cases t with
    | mk k s g e kids =>
     rw [A6,← hvv] at h
     have:=(List.cons.inj h).1
     rw [this] at hnm;exact hnm rfl)
   (refine Al.of_code (X:=cx) false [] (by simp) Tryz.func31 (by kernel_rfl) rfl (by simp only [List.length_cons,List.length_nil,Tryz.ntmps31];decide) (by simp) ?_;refine Ae hm _ _ _ ?_;simp only [Tryz.ntmps31,Tryz.results31,go_sem,Nat.reduceLT,Nat.reduceLeDiff,Nat.reduceEqDiff,Nat.reduceAdd,Nat.reduceSub,Nat.reduceMul,Nat.reduceBEq,Int.reduceToNat,Int.reduceLT,Int.reduceLE,Int.reduceEq,Int.reduceAdd,Int.reduceSub,Int.reduceNeg,↓reduceIte,reduceCtorEq,A7,hg0,c0,c1,c2,c3,if_true,if_false,c4,hga,w1])
   (repeat' (first | (refine iteI (fun h=>?_) (fun h=>?_))|(refine Ak (by first | omega | (simp (disch:=omega) only [Aa,Ab,Ac] at *;omega)) ?_;intro b hb)|(refine And.intro (by first | omega | (simp (disch:=omega) only [Aa,Ab,Ac] at *;omega)) ?_)|((first | (refine Ah hm (by rfl) (by kernel_rfl) ?_)|(refine Det.use (hN) ?_)|(refine Det.useQ (hN) ?_)|(refine Ag.use (hN) ?_)|(refine Ad.use (hN) ?_));simp only [go_sem])|(exact True.intro)|(exfalso;omega)))
   exact hb
end Go.LX
