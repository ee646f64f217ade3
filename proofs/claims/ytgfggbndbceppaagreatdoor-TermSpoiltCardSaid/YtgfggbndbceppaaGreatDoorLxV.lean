/- Filters that are right, the document's answer: terms. -/
import Derived.Test.YtgfggbndbceppaaGreatDoorLxU
import Derived.Test.YtgfggbndbceppaaGreatDoorLxT
import Derived.Test.YtgfggbndbceppaaGreatDoorLxS
set_option linter.unusedSimpArgs false
set_option linter.unusedVariables false
set_option linter.unusedSectionVars false
set_option linter.unnecessarySimpa false
set_option maxRecDepth 100000
set_option maxHeartbeats 2000000
namespace Go.LX
open Go Go.RowKit Go.Proofs
attribute [local irreducible] Al SWP Bi
theorem Jty (s:List UInt8) (hs:s.length≤1000000):Det cx 101 [.p (.str s)] [] (.p (.bool (decide (Jtq s)))) []:=by
 have hR:=J4d s hs;by_cases h0:(Je s).2.2=0
 ·have c1:(((Je s).2.2:Int)=0)=True:=eq_true omg;rw [show decide (Jtq s)=true from decide_eq_true h0];(refine bgo Tryz.func101 ?_;simp only [go_sem,simprocAttr]);(repeat' (first | ((refine Jqa (hR) ?_);simp only [go_sem,simprocAttr,c1]) | fail))
 ·have c1:(((Je s).2.2:Int)=0)=False:=eq_false omg;rw [show decide (Jtq s)=false from decide_eq_false h0];(refine bgo Tryz.func101 ?_;simp only [go_sem,simprocAttr]);(repeat' (first | ((refine Jqa (hR) ?_);simp only [go_sem,simprocAttr,c1]) | fail))
theorem J5l (n:Node) (hf:NodeFitC n) (hk:n.kind<5):Det cx 102 [.p (.sl [[.int .i64 n.kind,.int .i64 n.many,.str n.name,.str n.s,.bool n.neg,.int .i64 n.e]])] [] (.p (.bool (decide (Jq8 n)))) []:=by
 by_cases hnm:n.name=[]
 ·have hR:=Jp [n] sm (by intro x hx;simp at hx;subst hx;exact ⟨hf.s,by rw [hnm];simp,hf.e0,hf.e1⟩);rw [J00 hk,show valL [n]=[[.int .i64 n.kind,.int .i64 n.many,.str n.name,.str n.s,.bool n.neg,.int .i64 n.e]] from rfl] at hR;exact hR
 ·rw [decide_eq_false (fun h=>hnm h.2.1)];exact Jvp n hnm
instance (op:Int) (s:List UInt8) (n:Int) (c:Node) (m:Int):Decidable (Jqf op s n c m):=by unfold Jqf;infer_instance
theorem J3x (k m:Int) (nm s:List UInt8) (n:Int) (c:Node) (hs:s.length≤1000000) (hf:NodeFitC c):Det cx 67 [.p (.agg [.int .i64 k,.int .i64 m,.str nm,.str s,.int .i64 n,.int .i64 c.kind,.int .i64 c.many,.str c.name,.str c.s,.bool c.neg,.int .i64 c.e])] [] (.p (.bool (decide (Jqf k s n c m)))) []:=by
 by_cases k0:k=0
 ·subst k0;(refine bgo Tryz.func67 ?_;simp only [go_sem,simprocAttr]);(repeat' (apply iteI <;> intro h))
  all_goals (try clear hU)
  all_goals (try clear hP)
  all_goals (try clear hR)
  all_goals (clear hf hs)
  all_goals (rw [Bool.eq_iff_iff])
  all_goals (simp only [Jqf,Jqn,decide_eq_true_eq,Int.reduceEq,if_true,if_false,true_or,or_true,or_false,false_or,or_self,ite_true,ite_false,reduceIte])
  all_goals (try simp_all)
  all_goals (try omega)
 by_cases k1:k=1
 ·subst k1;have hU:=Cn s hs;(refine bgo Tryz.func67 ?_;simp only [go_sem,simprocAttr]);(repeat' (first | (apply iteI <;> intro h)|((refine Jqa (hU) ?_);simp only [go_sem,simprocAttr]) | fail))
  all_goals (try clear hU)
  all_goals (try clear hP)
  all_goals (try clear hR)
  all_goals (clear hf hs)
  all_goals (rw [Bool.eq_iff_iff])
  all_goals (simp only [Jqf,Jqn,decide_eq_true_eq,Int.reduceEq,if_true,if_false,true_or,or_true,or_false,false_or,or_self,ite_true,ite_false,reduceIte])
  all_goals (try simp_all)
  all_goals (try omega)
 by_cases k2:k=2
 ·subst k2;(refine bgo Tryz.func67 ?_;simp only [go_sem,simprocAttr]);(repeat' (apply iteI <;> intro h))
  all_goals (try clear hU)
  all_goals (try clear hP)
  all_goals (try clear hR)
  all_goals (clear hf hs)
  all_goals (rw [Bool.eq_iff_iff])
  all_goals (simp only [Jqf,Jqn,decide_eq_true_eq,Int.reduceEq,if_true,if_false,true_or,or_true,or_false,false_or,or_self,ite_true,ite_false,reduceIte])
  all_goals (try simp_all)
  all_goals (try omega)
 by_cases k3:k=3
 ·subst k3;(refine bgo Tryz.func67 ?_;simp only [go_sem,simprocAttr]);(repeat' (apply iteI <;> intro h))
  all_goals (try clear hU)
  all_goals (try clear hP)
  all_goals (try clear hR)
  all_goals (clear hf hs)
  all_goals (rw [Bool.eq_iff_iff])
  all_goals (simp only [Jqf,Jqn,decide_eq_true_eq,Int.reduceEq,if_true,if_false,true_or,or_true,or_false,false_or,or_self,ite_true,ite_false,reduceIte])
  all_goals (try simp_all)
  all_goals (try omega)
 by_cases k4:k=4
 ·subst k4;(refine bgo Tryz.func67 ?_;simp only [go_sem,simprocAttr]);(repeat' (apply iteI <;> intro h))
  all_goals (try clear hU)
  all_goals (try clear hP)
  all_goals (try clear hR)
  all_goals (clear hf hs)
  all_goals (rw [Bool.eq_iff_iff])
  all_goals (simp only [Jqf,Jqn,decide_eq_true_eq,Int.reduceEq,if_true,if_false,true_or,or_true,or_false,false_or,or_self,ite_true,ite_false,reduceIte])
  all_goals (try simp_all)
  all_goals (try omega)
 by_cases k5:k=5
 ·subst k5;(refine bgo Tryz.func67 ?_;simp only [go_sem,simprocAttr]);(repeat' (apply iteI <;> intro h))
  all_goals (try clear hU)
  all_goals (try clear hP)
  all_goals (try clear hR)
  all_goals (clear hf hs)
  all_goals (rw [Bool.eq_iff_iff])
  all_goals (simp only [Jqf,Jqn,decide_eq_true_eq,Int.reduceEq,if_true,if_false,true_or,or_true,or_false,false_or,or_self,ite_true,ite_false,reduceIte])
  all_goals (try simp_all)
  all_goals (try omega)
 by_cases k6:k=6
 ·subst k6;(refine bgo Tryz.func67 ?_;simp only [go_sem,simprocAttr]);(repeat' (apply iteI <;> intro h))
  all_goals (try clear hU)
  all_goals (try clear hP)
  all_goals (try clear hR)
  all_goals (clear hf hs)
  all_goals (rw [Bool.eq_iff_iff])
  all_goals (simp only [Jqf,Jqn,decide_eq_true_eq,Int.reduceEq,if_true,if_false,true_or,or_true,or_false,false_or,or_self,ite_true,ite_false,reduceIte])
  all_goals (try simp_all)
  all_goals (try omega)
 by_cases k7:k=7
 ·subst k7;(refine bgo Tryz.func67 ?_;simp only [go_sem,simprocAttr]);(repeat' (apply iteI <;> intro h))
  all_goals (try clear hU)
  all_goals (try clear hP)
  all_goals (try clear hR)
  all_goals (clear hf hs)
  all_goals (rw [Bool.eq_iff_iff])
  all_goals (simp only [Jqf,Jqn,decide_eq_true_eq,Int.reduceEq,if_true,if_false,true_or,or_true,or_false,false_or,or_self,ite_true,ite_false,reduceIte])
  all_goals (try simp_all)
  all_goals (try omega)
 by_cases k8:k=8
 ·subst k8;(refine bgo Tryz.func67 ?_;simp only [go_sem,simprocAttr]);(repeat' (apply iteI <;> intro h))
  all_goals (try clear hU)
  all_goals (try clear hP)
  all_goals (try clear hR)
  all_goals (clear hf hs)
  all_goals (rw [Bool.eq_iff_iff])
  all_goals (simp only [Jqf,Jqn,decide_eq_true_eq,Int.reduceEq,if_true,if_false,true_or,or_true,or_false,false_or,or_self,ite_true,ite_false,reduceIte])
  all_goals (try simp_all)
  all_goals (try omega)
 by_cases k9:k=9
 ·subst k9;(refine bgo Tryz.func67 ?_;simp only [go_sem,simprocAttr]);(repeat' (apply iteI <;> intro h))
  all_goals (try clear hU)
  all_goals (try clear hP)
  all_goals (try clear hR)
  all_goals (clear hf hs)
  all_goals (rw [Bool.eq_iff_iff])
  all_goals (simp only [Jqf,Jqn,decide_eq_true_eq,Int.reduceEq,if_true,if_false,true_or,or_true,or_false,false_or,or_self,ite_true,ite_false,reduceIte])
  all_goals (try simp_all)
  all_goals (try omega)
 by_cases k10:k=10
 ·subst k10;(refine bgo Tryz.func67 ?_;simp only [go_sem,simprocAttr]);(repeat' (apply iteI <;> intro h))
  all_goals (try clear hU)
  all_goals (try clear hP)
  all_goals (try clear hR)
  all_goals (clear hf hs)
  all_goals (rw [Bool.eq_iff_iff])
  all_goals (simp only [Jqf,Jqn,decide_eq_true_eq,Int.reduceEq,if_true,if_false,true_or,or_true,or_false,false_or,or_self,ite_true,ite_false,reduceIte])
  all_goals (try simp_all)
  all_goals (try omega)
 by_cases k11:k=11
 ·subst k11;(refine bgo Tryz.func67 ?_;simp only [go_sem,simprocAttr]);(repeat' (apply iteI <;> intro h))
  all_goals (try clear hU)
  all_goals (try clear hP)
  all_goals (try clear hR)
  all_goals (clear hf hs)
  all_goals (rw [Bool.eq_iff_iff])
  all_goals (simp only [Jqf,Jqn,decide_eq_true_eq,Int.reduceEq,if_true,if_false,true_or,or_true,or_false,false_or,or_self,ite_true,ite_false,reduceIte])
  all_goals (try simp_all)
  all_goals (try omega)
 by_cases k12:k=12
 ·subst k12;have hP:=Jty s hs;(refine bgo Tryz.func67 ?_;simp only [go_sem,simprocAttr]);(repeat' (first | (apply iteI <;> intro h)|((refine Jqa (hP) ?_);simp only [go_sem,simprocAttr]) | fail))
  all_goals (try clear hU)
  all_goals (try clear hP)
  all_goals (try clear hR)
  all_goals (clear hf hs)
  all_goals (rw [Bool.eq_iff_iff])
  all_goals (simp only [Jqf,Jqn,decide_eq_true_eq,Int.reduceEq,if_true,if_false,true_or,or_true,or_false,false_or,or_self,ite_true,ite_false,reduceIte])
  all_goals (try simp_all)
  all_goals (try omega)
 by_cases k13:k=13
 ·subst k13;have hP:=Jty s hs;(refine bgo Tryz.func67 ?_;simp only [go_sem,simprocAttr]);(repeat' (first | (apply iteI <;> intro h)|((refine Jqa (hP) ?_);simp only [go_sem,simprocAttr]) | fail))
  all_goals (try clear hU)
  all_goals (try clear hP)
  all_goals (try clear hR)
  all_goals (clear hf hs)
  all_goals (rw [Bool.eq_iff_iff])
  all_goals (simp only [Jqf,Jqn,decide_eq_true_eq,Int.reduceEq,if_true,if_false,true_or,or_true,or_false,false_or,or_self,ite_true,ite_false,reduceIte])
  all_goals (try simp_all)
  all_goals (try omega)
 by_cases k14:k=14
 ·subst k14;(refine bgo Tryz.func67 ?_;simp only [go_sem,simprocAttr]);(repeat' (apply iteI <;> intro h))
  all_goals (try clear hU)
  all_goals (try clear hP)
  all_goals (try clear hR)
  all_goals (clear hf hs)
  all_goals (rw [Bool.eq_iff_iff])
  all_goals (simp only [Jqf,Jqn,decide_eq_true_eq,Int.reduceEq,if_true,if_false,true_or,or_true,or_false,false_or,or_self,ite_true,ite_false,reduceIte])
  all_goals (try simp_all)
  all_goals (try omega)
 by_cases k15:k=15
 ·subst k15;have hP:=Jty s hs;(refine bgo Tryz.func67 ?_;simp only [go_sem,simprocAttr]);(repeat' (first | (apply iteI <;> intro h)|((refine Jqa (hP) ?_);simp only [go_sem,simprocAttr]) | fail))
  all_goals (try clear hU)
  all_goals (try clear hP)
  all_goals (try clear hR)
  all_goals (clear hf hs)
  all_goals (rw [Bool.eq_iff_iff])
  all_goals (simp only [Jqf,Jqn,decide_eq_true_eq,Int.reduceEq,if_true,if_false,true_or,or_true,or_false,false_or,or_self,ite_true,ite_false,reduceIte])
  all_goals (try simp_all)
  all_goals (try omega)
 by_cases k17:k=17
 ·subst k17;(refine bgo Tryz.func67 ?_;simp only [go_sem,simprocAttr]);(repeat' (apply iteI <;> intro h))
  all_goals (try clear hU)
  all_goals (try clear hP)
  all_goals (try clear hR)
  all_goals (clear hf hs)
  all_goals (rw [Bool.eq_iff_iff])
  all_goals (simp only [Jqf,Jqn,decide_eq_true_eq,Int.reduceEq,if_true,if_false,true_or,or_true,or_false,false_or,or_self,ite_true,ite_false,reduceIte])
  all_goals (try simp_all)
  all_goals (try omega)
 by_cases k18:k=18
 ·subst k18;(refine bgo Tryz.func67 ?_;simp only [go_sem,simprocAttr]);(repeat' (apply iteI <;> intro h))
  all_goals (try clear hU)
  all_goals (try clear hP)
  all_goals (try clear hR)
  all_goals (clear hf hs)
  all_goals (rw [Bool.eq_iff_iff])
  all_goals (simp only [Jqf,Jqn,decide_eq_true_eq,Int.reduceEq,if_true,if_false,true_or,or_true,or_false,false_or,or_self,ite_true,ite_false,reduceIte])
  all_goals (try simp_all)
  all_goals (try omega)
 by_cases k19:k=19
 ·subst k19;(refine bgo Tryz.func67 ?_;simp only [go_sem,simprocAttr]);(repeat' (apply iteI <;> intro h))
  all_goals (try clear hU)
  all_goals (try clear hP)
  all_goals (try clear hR)
  all_goals (clear hf hs)
  all_goals (rw [Bool.eq_iff_iff])
  all_goals (simp only [Jqf,Jqn,decide_eq_true_eq,Int.reduceEq,if_true,if_false,true_or,or_true,or_false,false_or,or_self,ite_true,ite_false,reduceIte])
  all_goals (try simp_all)
  all_goals (try omega)
 by_cases k16:k=16
 ·subst k16;have hP:=Jty s hs;by_cases hk:c.kind<5
  ·have hR:=J5l c hf hk;have ck:=eq_true hk;(refine bgo Tryz.func67 ?_;simp only [go_sem,simprocAttr]);(repeat' (first | (apply iteI <;> intro h)|((first | (refine Jqa (hP) ?_)|(refine Jqa (hR) ?_));simp only [go_sem,simprocAttr,ck,decide_true]) | fail))
   all_goals (try clear hU)
   all_goals (try clear hP)
   all_goals (try clear hR)
   all_goals (clear hf hs)
   all_goals (rw [Bool.eq_iff_iff])
   all_goals (simp only [Jqf,Jqn,decide_eq_true_eq,Int.reduceEq,if_true,if_false,true_or,or_true,or_false,false_or,or_self,ite_true,ite_false,reduceIte])
   all_goals (try simp_all)
   all_goals (try omega)
  ·have ck:=eq_false hk;have hnp:¬ Jq8 c:=fun h=>hk h.1
   (refine bgo Tryz.func67 ?_;simp only [go_sem,simprocAttr]);(repeat' (first | (apply iteI <;> intro h)|((refine Jqa (hP) ?_);simp only [go_sem,simprocAttr,ck,decide_false]) | fail))
   all_goals (try clear hU)
   all_goals (try clear hP)
   all_goals (try clear hR)
   all_goals (clear hf hs)
   all_goals (rw [Bool.eq_iff_iff])
   all_goals (simp only [Jqf,Jqn,decide_eq_true_eq,Int.reduceEq,if_true,if_false,true_or,or_true,or_false,false_or,or_self,ite_true,ite_false,reduceIte])
   all_goals (try simp_all)
   all_goals (try omega)
 have e0:=eq_false k0;have e1:=eq_false k1;have e2:=eq_false k2;have e3:=eq_false k3;have e4:=eq_false k4;have e5:=eq_false k5;have e6:=eq_false k6;have e7:=eq_false k7;have e8:=eq_false k8;have e9:=eq_false k9;have e10:=eq_false k10;have e11:=eq_false k11;have e12:=eq_false k12;have e13:=eq_false k13;have e14:=eq_false k14;have e15:=eq_false k15;have e17:=eq_false k17;have e18:=eq_false k18;have e19:=eq_false k19;have e16:=eq_false k16;rw [show decide (Jqf k s n c m)=false by simp [Jqf,k0,k1,k2,k3,k4,k5,k6,k7,k8,k9,k10,k11,k12,k13,k14,k15,k16,k17,k18,k19]];(refine bgo Tryz.func67 ?_;simp only [go_sem,simprocAttr,e0,e1,e2,e3,e4,e5,e6,e7,e8,e9,e10,e11,e12,e13,e14,e15,e16,e17,e18,e19])
 skip
def rfL:List RKT→RF
 | []=>.nil
 | p :: l=>.cons p.1 p.2 (rfL l)
theorem Jus:∀ l:List RKT,(rfL l).enc=l.flatMap fun p=>p.2.enc p.1
 | []=>Jq0
 | p :: l=>by rw [rfL,Jqh,Jus l];rfl
theorem nameR_enc (nm:List UInt8) (t:RT):nameR nm (t.enc [])=t.enc nm:=by
 cases t with
 | mk k s n c kids=>rw [Jqk,Jqk];rfl
def sameL (ns:List (List UInt8)) (t:RT):List RKT:=ns.map fun nm=>(nm,t)
theorem J63 (P:Tree→Bool):∀ l:List KT,tupS (List.replicate l.length P) l=allP P l
 | []=>rfl
 | q :: l=>by
  rw [List.length_cons,List.replicate_succ,tupS,J63 P l];rfl
theorem Jz5 (k m:Int) (nm s:List UInt8) (n:Int) (c:Node):Det cx 27 [.p (.agg [.int .i64 k,.int .i64 m,.str nm,.str s,.int .i64 n,.int .i64 c.kind,.int .i64 c.many,.str c.name,.str c.s,.bool c.neg,.int .i64 c.e]) ] [] (.p (.bool (decide (Jqj k)))) []:=by
 by_cases h1:16≤k
 ·have c1:=eq_true h1;by_cases h2:k≤19
  ·have c2:=eq_true h2;rw [show decide (Jqj k)=true from decide_eq_true ⟨h1,h2⟩];(refine bgo Tryz.func27 ?_;simp only [go_sem,simprocAttr,c1,c2,decide_true])
   skip
  ·have c2:=eq_false h2;rw [show decide (Jqj k)=false from decide_eq_false fun h=>h2 h.2];(refine bgo Tryz.func27 ?_;simp only [go_sem,simprocAttr,c1,c2,decide_true,decide_false])
   skip
 ·have c1:=eq_false h1;rw [show decide (Jqj k)=false from decide_eq_false fun h=>h1 h.1];(refine bgo Tryz.func27 ?_;simp only [go_sem,simprocAttr,c1,decide_false])
  skip
def Jq3 (i:Nat) (l:List RKT) (q:Nat):Nat:=i+1+(rfL (l.take q)).enc.length
theorem Ju6 (i:Nat) (l:List RKT):Jq3 i l 0=i+1:=by unfold Jq3;rw [List.take_zero,rfL,Jq0];rfl
theorem Jt7 {i:Nat} {l:List RKT} {q:Nat} {p:RKT} (h:l[q]? = some p):Jq3 i l (q+1)=Jq3 i l q+(p.2.enc p.1).length:=by
 unfold Jq3;rw [Jus,Jus,List.take_add_one,h,Option.toList_some,List.flatMap_append,List.length_append];simp;omega
theorem Jxl:∀ f:RF,rfL f.list=f
 | .nil=>rfl
 | .cons nm t r=>by rw [RF.list,rfL,Jxl r]
theorem J07 {v:List YRow} {i:Nat} {y:YRow} {kids:RF} {rest:List YRow} (h:v.drop i=y :: (kids.enc ++ rest)) {q:Nat} (hq:q≤kids.list.length):v.drop (Jq3 i kids.list q)=(rfL (kids.list.drop q)).enc ++ rest:=by
 unfold Jq3;have e1:kids.enc=(rfL (kids.list.take q)).enc ++ (rfL (kids.list.drop q)).enc:=by
  rw [Jus,Jus,← List.flatMap_append,List.take_append_drop,← Jus,Jxl]
 rw [← List.drop_drop,← List.drop_drop,h,List.drop_succ_cons,List.drop_zero,e1,List.append_assoc,List.drop_left]
theorem Jvk {v:List YRow} {i:Nat} {y:YRow} {kids:RF} {rest:List YRow} (h:v.drop i=y :: (kids.enc ++ rest)) {q:Nat} {p:RKT} (hp:kids.list[q]? = some p):v.drop (Jq3 i kids.list q)=p.2.enc p.1 ++ ((rfL (kids.list.drop (q+1))).enc ++ rest):=by
 have hq:=(List.getElem?_eq_some_iff.1 hp).1;rw [J07 h omg,List.drop_eq_getElem_cons hq];have:kids.list[q]=p:=(List.getElem?_eq_some_iff.1 hp).2;rw [this,rfL,Jqh,List.append_assoc]
theorem J1j {v:List YRow} {i:Nat} {y:YRow} {kids:RF} {rest:List YRow} (h:v.drop i=y :: (kids.enc ++ rest)) {q:Nat} {p:RKT} (hp:kids.list[q]? = some p):Jq3 i kids.list q+(p.2.enc p.1).length≤v.length:=by
 have h1:=Jvk h hp;have h2:=congrArg List.length h1;have h3:=Jrj p.2 p.1;rw [List.length_drop,List.length_append] at h2;omega
theorem Jx5 {i:Nat} {l:List RKT} {q r:Nat} (h:q<r) (hr:r≤l.length):Jq3 i l q<Jq3 i l r:=by
 induction r with
 | zero=>omega
 | succ r ih =>
  obtain ⟨p,hp⟩:∃ p,l[r]? = some p:=⟨_,List.getElem?_eq_getElem omg⟩
  rw [Jt7 hp];have:=Jrj p.2 p.1;by_cases e:q=r
  ·subst e;omega
  ·have:=ih omg omg;omega
theorem d_had (v:List YRow) (i:Nat) (y:YRow) (kids:RF) (rest:List YRow) (q:Nat) (p:RKT) (hv:v.length≤1000000) (h:v.drop i=y :: (kids.enc ++ rest)) (hp:kids.list[q]? = some p):Det cx 103 [.p (.sl (rowL v)),.p (.int .i64 i),.p (.int .i64 (Jq3 i kids.list q))] [] (.p (.bool (decide (p.1∈(kids.list.take q).map (·.1))))) []:=by
 have hq:=(List.getElem?_eq_some_iff.1 hp).1;have hlt:=J1j h hp;have h0:i+1≤Jq3 i kids.list q:=by unfold Jq3;omega
 obtain ⟨k1,n1,s1,g1,e1,hgp⟩:=Jv4 (Jvk h hp);have w0:=wj1 (i:=i) omg;(refine bgo Tryz.func103 ?_;simp only [go_sem,simprocAttr,w0]);refine SWP.loop (fun r:Nat=>⟨Ba 27 [(0,.p (.sl (rowL v))),(1,.p (.int .i64 i)),(2,.p (.int .i64 (Jq3 i kids.list q))),(7,.p (.int .i64 (Jq3 i kids.list r)))],[]⟩) (fun r=>r≤q∧p.1 ∉ (kids.list.take r).map (·.1)) (fun r=>q - r) 0 (by rw [Ju6];exact Jqe) ⟨Nat.zero_le _,by simp⟩ ?_;rintro r ⟨hr,hn⟩;by_cases hrq:r<q
 ·have hpl:=Jx5 (i:=i) hrq (by omega:q≤kids.list.length);have c1:((Jq3 i kids.list r:Int)<(Jq3 i kids.list q:Int))=True:=eq_true omg;obtain ⟨x,hx⟩:∃ x,kids.list[r]? = some x:=⟨_,List.getElem?_eq_getElem omg⟩
  have hd:=Jvk h hx;obtain ⟨k2,n2,s2,g2,e2,hgx⟩:=Jv4 hd;by_cases hnm:x.1=p.1
  ·have c2:=eq_true hnm;have hin:p.1∈(kids.list.take q).map (·.1):=by
    rw [← hnm];refine List.mem_map.2 ⟨x,?_,rfl⟩;exact List.mem_of_getElem? (i:=r) (by rw [List.getElem?_take,if_pos hrq];exact hx)
   rw [decide_eq_true hin];(refine lws ?_;simp only [go_sem,simprocAttr,c1,decide_true]);(repeat' (first | ((refine Jqi ?_);simp only [go_sem,simprocAttr,hgp,c2,hgx]) | fail))
  ·have c2:=eq_false hnm;have hNx:=Jxa v (Jq3 i kids.list r) x.1 x.2 _ hv hd;rw [← Jt7 hx] at hNx;(refine lws ?_;simp only [go_sem,simprocAttr,c1,decide_true]);(repeat' (first | ((first | (refine Jqi ?_)|(refine Jqa (hNx) ?_));simp only [go_sem,simprocAttr,hgp,c2,hgx]) | fail));exact ⟨r+1,⟨by omega,by
    rw [List.take_add_one,hx,Option.toList_some,List.map_append,List.mem_append];rintro (a | a)
    ·exact hn a
    ·simp at a;exact hnm a.symm⟩,by omega,Jqe⟩
 ·obtain rfl:r=q:=by omega
  have c1:((Jq3 i kids.list r:Int)<(Jq3 i kids.list r:Int))=False:=eq_false omg;rw [decide_eq_false hn];(refine lws ?_;simp only [go_sem,simprocAttr,c1])
  skip
def Jsj (op:Int) (l:List RKT) (q:Nat) (p:RKT):Prop:=J49 op p∧(op=4→q=0→p.2.kind≠4)∧(op=8→p.1 ∉ (l.take q).map (·.1))
theorem Jxj {l:List (List UInt8)}:l.Nodup ↔ ∀ q x,l[q]? = some x→x ∉ l.take q:=by
 constructor
 ·intro h q x hx hm';obtain ⟨r,hr⟩:=List.getElem?_of_mem hm';rw [List.getElem?_take] at hr;split at hr
  ·obtain ⟨a,rfl⟩:=List.getElem?_eq_some_iff.1 hr;obtain ⟨b,hb⟩:=List.getElem?_eq_some_iff.1 hx;exact (List.pairwise_iff_getElem.1 h) r q a b omg hb.symm
  ·cases hr
 ·intro h;refine List.pairwise_iff_getElem.2 fun i j hi hj hij e=>?_
  have hx:=List.getElem?_eq_getElem hj;refine h j _ hx (List.mem_of_getElem? (i:=i) ?_);rw [List.getElem?_take,if_pos hij,← e];exact List.getElem?_eq_getElem hi
theorem Jzd {op:Int} {l:List RKT}:Jrf op l ↔ ∀ q p,l[q]? = some p→Jsj op l q p:=by
 unfold Jrf Jsj;constructor
 ·rintro ⟨h1,h2,h3⟩ q p hp;refine ⟨h1 p (List.mem_of_getElem? hp),fun a b=>?_,fun a=>?_⟩
  ·subst b;exact h2 a p (by rw [List.head?_eq_getElem?];exact hp)
  ·rw [List.map_take];exact (Jxj.1 (h3 a)) q p.1 (by simp [hp])
 ·intro h;refine ⟨fun p hp=>?_,fun a p hp=>?_,fun a=>?_⟩
  ·obtain ⟨q,hq⟩:=List.getElem?_of_mem hp;exact (h q p hq).1
  ·exact (h 0 p (by rw [← List.head?_eq_getElem?];exact hp)).2.1 a rfl
  ·rw [Jxj];intro q x hx;rw [List.getElem?_map] at hx;cases hq:l[q]? with
   | none=>rw [hq] at hx;cases hx
   | some p =>
    rw [hq] at hx;cases hx;rw [← List.map_take];exact (h q p hq).2.2 a
open Classical in
noncomputable def Jwj (k:Int) (l:List RKT):Bool:=decide (Jrf k l)
theorem J01 {k:Int} {l:List RKT} (h:Jrf k l):true=Jwj k l:=by unfold Jwj;exact (@decide_eq_true _ (Classical.propDecidable _) h).symm
theorem J1w {k:Int} {l:List RKT} (h:¬ Jrf k l):false=Jwj k l:=by unfold Jwj;exact (@decide_eq_false _ (Classical.propDecidable _) h).symm
theorem J3z (v:List YRow) (i:Nat) (nm:List UInt8) (k:Int) (s:List UInt8) (g:Int) (e:Node) (kids:RF) (rest:List YRow) (hv:v.length≤1000000) (h:v.drop i=(RT.mk k s g e kids).enc nm ++ rest) (hs:∀ n∈v,n.name.length≤1000000):Det cx 68 [.p (.sl (rowL v)),.p (.int .i64 i)] [] (.p (.bool (Jwj k kids.list))) []:=by
 have hll:=Jqz kids;have hkl:=Jqx kids;rw [Jqk] at h;have hg0:=Jr8 h;rw [Jrc] at hg0;have hb:=Jze h sm;simp only [List.cons_append,List.length_cons,List.length_append] at hb;have w0:=wj1 (i:=i) omg;have hI0:=Jz5 k kids.len nm s g e;(refine bgo Tryz.func68 ?_;simp only [go_sem,simprocAttr,hg0,w0]);refine SWP.loop (fun q:Nat=>⟨Ba 77 [(0,.p (.sl (rowL v))),(1,.p (.int .i64 i)),(5,.ptr 5 0 0),(6,.p (.int .i64 (Jq3 i kids.list q))),(7,.p (.int .i64 q))],[(5,.var 37 [.p (.int .i64 k),.p (.int .i64 kids.len),.p (.str nm),.p (.str s),.p (.int .i64 g),.p (.int .i64 e.kind),.p (.int .i64 e.many),.p (.str e.name),.p (.str e.s),.p (.bool e.neg),.p (.int .i64 e.e)])]⟩) (fun q=>q≤kids.len∧∀ r p,r<q→kids.list[r]? = some p→Jsj k kids.list r p) (fun q=>kids.len - q) 0 (by rw [Ju6];exact Jqe) ⟨Nat.zero_le _,fun r p hr=>by omega⟩ ?_;rintro q ⟨h1,h2⟩;by_cases hq:q<kids.len
 ·have c1:((q:Int)<(kids.len:Int))=True:=eq_true omg;obtain ⟨⟨nm',k',s',g',e',kids'⟩,hp⟩:∃ p,kids.list[q]? = some p:=⟨_,List.getElem?_eq_getElem omg⟩
  have hd:=Jvk h hp;have hlt:=J1j h hp;have hpos:=Jrj (.mk k' s' g' e' kids') nm';simp only at hd hlt;have hga:(rowL v)[Jq3 i kids.list q]? = some [.int .i64 k',.int .i64 kids'.len,.str nm',.str s',.int .i64 g',.int .i64 e'.kind,.int .i64 e'.many,.str e'.name,.str e'.s,.bool e'.neg,.int .i64 e'.e]:=by
   rw [Jqk] at hd;exact Jr8 hd
  have hnl:nm'.length≤1000000:=by
   rw [Jqk] at hd;have hm:(⟨k',kids'.len,nm',s',g',e'⟩:YRow)∈v.drop (Jq3 i kids.list q):=by rw [hd];exact List.mem_cons_self
   exact hs _ (List.mem_of_mem_drop hm)
  have w1:=wj1 (i:=q) omg;have hIx:=Jz5 k' kids'.len nm' s' g' e';have hNx:=Jxa v (Jq3 i kids.list q) nm' (.mk k' s' g' e' kids') _ hv hd;rw [show Jq3 i kids.list q+((RT.mk k' s' g' e' kids').enc nm').length=Jq3 i kids.list (q+1) from (Jt7 hp).symm] at hNx;have hU:=Cn nm' hnl;have hH:=d_had v i ⟨k,kids.len,nm,s,g,e⟩ kids rest q (nm',.mk k' s' g' e' kids') hv h hp;simp only at hH;have hno:¬ Jsj k kids.list q (nm',.mk k' s' g' e' kids')→false=Jwj k kids.list:=fun hn=>J1w fun hk=>hn (Jzd.1 hk q _ hp)
  have hyes:Jsj k kids.list q (nm',.mk k' s' g' e' kids')→∀ r p,r<q+1→kids.list[r]? = some p→Jsj k kids.list r p:=fun hy r p hr hrp=>by
   by_cases e:r=q
   ·subst e;rw [hp] at hrp;cases hrp;exact hy
   ·exact h2 r p omg hrp
  by_cases hX:Jqj k'
  ·rw [decide_eq_true hX] at hIx;by_cases hY:Jqj k
   ·rw [decide_eq_true hY] at hI0;have hkd:Jqj k' ↔ Jqj k∨k=7:=⟨fun _=>.inl hY,fun _=>hX⟩
    by_cases o4:k=4
    ·have e4:=eq_true o4;have e8:(k=8)=False:=eq_false omg;by_cases q0:q=0
     ·have f0:((q:Int)=0)=True:=eq_true omg;by_cases k4:k'=4
      ·have g4:=eq_true k4;(refine lws ?_;simp only [go_sem,simprocAttr,c1,hga,decide_true]);(repeat' (first | ((first | (refine Jqi ?_)|(refine Jqb (hIx) ?_)|(refine Jqb (hI0) ?_));simp only [go_sem,simprocAttr,bne_self_eq_false,e4,f0,g4]) | fail))
       all_goals exact hno fun h=>h.2.1 o4 q0 k4
      ·have g4:=eq_false k4;by_cases n0:nm'=[]
       ·have fn:=eq_true n0;have hy:Jsj k kids.list q (nm',.mk k' s' g' e' kids'):=⟨⟨hkd,fun _=>n0,fun h=>absurd h omg⟩,fun _ _=>k4,fun h=>absurd h omg⟩
        (refine lws ?_;simp only [go_sem,simprocAttr,c1,hga,decide_true]);(repeat' (first | ((first | (refine Jqi ?_)|(refine Jqb (hIx) ?_)|(refine Jqb (hI0) ?_)|(refine Jqa (hNx) ?_));simp only [go_sem,simprocAttr,w1,Bool.not_true,bne_self_eq_false,e4,e8,f0,g4,fn]) | fail))
        all_goals exact ⟨q+1,⟨by omega,hyes hy⟩,by omega,Jqe⟩
       ·have fn:=eq_false n0;(refine lws ?_;simp only [go_sem,simprocAttr,c1,hga,decide_true]);(repeat' (first | ((first | (refine Jqi ?_)|(refine Jqb (hIx) ?_)|(refine Jqb (hI0) ?_));simp only [go_sem,simprocAttr,Bool.not_true,bne_self_eq_false,e4,e8,f0,g4,fn]) | fail))
        all_goals exact hno fun h=>n0 (h.1.2.1 omg)
     ·have f0:((q:Int)=0)=False:=eq_false omg;by_cases n0:nm'=[]
      ·have fn:=eq_true n0;have hy:Jsj k kids.list q (nm',.mk k' s' g' e' kids'):=⟨⟨hkd,fun _=>n0,fun h=>absurd h omg⟩,fun _ h=>absurd h q0,fun h=>absurd h omg⟩
       (refine lws ?_;simp only [go_sem,simprocAttr,c1,hga,decide_true]);(repeat' (first | ((first | (refine Jqi ?_)|(refine Jqb (hIx) ?_)|(refine Jqb (hI0) ?_)|(refine Jqa (hNx) ?_));simp only [go_sem,simprocAttr,w1,Bool.not_true,bne_self_eq_false,e4,e8,f0,fn]) | fail))
       all_goals exact ⟨q+1,⟨by omega,hyes hy⟩,by omega,Jqe⟩
      ·have fn:=eq_false n0;(refine lws ?_;simp only [go_sem,simprocAttr,c1,hga,decide_true]);(repeat' (first | ((first | (refine Jqi ?_)|(refine Jqb (hIx) ?_)|(refine Jqb (hI0) ?_));simp only [go_sem,simprocAttr,Bool.not_true,bne_self_eq_false,e4,e8,f0,fn]) | fail))
       all_goals exact hno fun h=>n0 (h.1.2.1 omg)
    ·have e4:=eq_false o4;by_cases o8:k=8
     ·have e8:=eq_true o8;cases hva:valid nm' with
      | false =>
       rw [hva] at hU;(refine lws ?_;simp only [go_sem,simprocAttr,c1,hga,decide_true]);(repeat' (first | ((first | (refine Jqi ?_)|(refine Jqb (hIx) ?_)|(refine Jqb (hI0) ?_)|(refine Jqa (hU) ?_));simp only [go_sem,simprocAttr,Bool.not_false,bne_self_eq_false,e4,e8]) | fail))
       all_goals exact hno fun h=>by have:=h.1.2.2 o8;simp only at this;rw [hva] at this;cases this
      | true =>
       rw [hva] at hU;by_cases hin:nm'∈(kids.list.take q).map (·.1)
       ·rw [decide_eq_true hin] at hH;(refine lws ?_;simp only [go_sem,simprocAttr,c1,hga,decide_true]);(repeat' (first | ((first | (refine Jqi ?_)|(refine Jqb (hIx) ?_)|(refine Jqb (hI0) ?_)|(refine Jqa (hU) ?_)|(refine Jqa (hH) ?_));simp only [go_sem,simprocAttr,Bool.not_true,bne_self_eq_false,e4,e8]) | fail))
        all_goals exact hno fun h=>h.2.2 o8 hin
       ·rw [decide_eq_false hin] at hH;have hy:Jsj k kids.list q (nm',.mk k' s' g' e' kids'):=⟨⟨hkd,fun h=>absurd o8 h,fun _=>hva⟩,fun h=>absurd h o4,fun _=>hin⟩
        (refine lws ?_;simp only [go_sem,simprocAttr,c1,hga,decide_true]);(repeat' (first | ((first | (refine Jqi ?_)|(refine Jqb (hIx) ?_)|(refine Jqb (hI0) ?_)|(refine Jqa (hU) ?_)|(refine Jqa (hH) ?_)|(refine Jqa (hNx) ?_));simp only [go_sem,simprocAttr,w1,Bool.not_true,bne_self_eq_false,e4,e8]) | fail))
        all_goals exact ⟨q+1,⟨by omega,hyes hy⟩,by omega,Jqe⟩
     ·have e8:=eq_false o8;by_cases n0:nm'=[]
      ·have fn:=eq_true n0;have hy:Jsj k kids.list q (nm',.mk k' s' g' e' kids'):=⟨⟨hkd,fun _=>n0,fun h=>absurd h o8⟩,fun h=>absurd h o4,fun h=>absurd h o8⟩
       (refine lws ?_;simp only [go_sem,simprocAttr,c1,hga,decide_true]);(repeat' (first | ((first | (refine Jqi ?_)|(refine Jqb (hIx) ?_)|(refine Jqb (hI0) ?_)|(refine Jqa (hNx) ?_));simp only [go_sem,simprocAttr,w1,Bool.not_true,bne_self_eq_false,e4,e8,fn]) | fail))
       all_goals exact ⟨q+1,⟨by omega,hyes hy⟩,by omega,Jqe⟩
      ·have fn:=eq_false n0;(refine lws ?_;simp only [go_sem,simprocAttr,c1,hga,decide_true]);(repeat' (first | ((first | (refine Jqi ?_)|(refine Jqb (hIx) ?_)|(refine Jqb (hI0) ?_));simp only [go_sem,simprocAttr,Bool.not_true,bne_self_eq_false,e4,e8,fn]) | fail))
       all_goals exact hno fun h=>n0 (h.1.2.1 o8)
   ·rw [decide_eq_false hY] at hI0;by_cases o7:k=7
    ·have e7:=eq_true o7;have hkd:Jqj k' ↔ Jqj k∨k=7:=⟨fun _=>.inr o7,fun _=>hX⟩
     by_cases o4:k=4
     ·have e4:=eq_true o4;have e8:(k=8)=False:=eq_false omg;by_cases q0:q=0
      ·have f0:((q:Int)=0)=True:=eq_true omg;by_cases k4:k'=4
       ·have g4:=eq_true k4;(refine lws ?_;simp only [go_sem,simprocAttr,c1,hga,decide_true]);(repeat' (first | ((first | (refine Jqi ?_)|(refine Jqb (hIx) ?_)|(refine Jqb (hI0) ?_));simp only [go_sem,simprocAttr,Bool.true_bne,Bool.not_true,e7,e4,f0,g4])|(exfalso;omega)))
        all_goals exact hno fun h=>h.2.1 o4 q0 k4
       ·have g4:=eq_false k4;by_cases n0:nm'=[]
        ·have fn:=eq_true n0;have hy:Jsj k kids.list q (nm',.mk k' s' g' e' kids'):=⟨⟨hkd,fun _=>n0,fun h=>absurd h omg⟩,fun _ _=>k4,fun h=>absurd h omg⟩
         (refine lws ?_;simp only [go_sem,simprocAttr,c1,hga,decide_true]);(repeat' (first | ((first | (refine Jqi ?_)|(refine Jqb (hIx) ?_)|(refine Jqb (hI0) ?_)|(refine Jqa (hNx) ?_));simp only [go_sem,simprocAttr,w1,Bool.true_bne,Bool.not_true,e7,e4,e8,f0,g4,fn])|(exfalso;omega)))
         all_goals exact ⟨q+1,⟨by omega,hyes hy⟩,by omega,Jqe⟩
        ·have fn:=eq_false n0;(refine lws ?_;simp only [go_sem,simprocAttr,c1,hga,decide_true]);(repeat' (first | ((first | (refine Jqi ?_)|(refine Jqb (hIx) ?_)|(refine Jqb (hI0) ?_));simp only [go_sem,simprocAttr,Bool.true_bne,Bool.not_true,e7,e4,e8,f0,g4,fn])|(exfalso;omega)))
         all_goals exact hno fun h=>n0 (h.1.2.1 omg)
      ·have f0:((q:Int)=0)=False:=eq_false omg;by_cases n0:nm'=[]
       ·have fn:=eq_true n0;have hy:Jsj k kids.list q (nm',.mk k' s' g' e' kids'):=⟨⟨hkd,fun _=>n0,fun h=>absurd h omg⟩,fun _ h=>absurd h q0,fun h=>absurd h omg⟩
        (refine lws ?_;simp only [go_sem,simprocAttr,c1,hga,decide_true]);(repeat' (first | ((first | (refine Jqi ?_)|(refine Jqb (hIx) ?_)|(refine Jqb (hI0) ?_)|(refine Jqa (hNx) ?_));simp only [go_sem,simprocAttr,w1,Bool.true_bne,Bool.not_true,e7,e4,e8,f0,fn])|(exfalso;omega)))
        all_goals exact ⟨q+1,⟨by omega,hyes hy⟩,by omega,Jqe⟩
       ·have fn:=eq_false n0;(refine lws ?_;simp only [go_sem,simprocAttr,c1,hga,decide_true]);(repeat' (first | ((first | (refine Jqi ?_)|(refine Jqb (hIx) ?_)|(refine Jqb (hI0) ?_));simp only [go_sem,simprocAttr,Bool.true_bne,Bool.not_true,e7,e4,e8,f0,fn])|(exfalso;omega)))
        all_goals exact hno fun h=>n0 (h.1.2.1 omg)
     ·have e4:=eq_false o4;by_cases o8:k=8
      ·have e8:=eq_true o8;cases hva:valid nm' with
       | false =>
        rw [hva] at hU;(refine lws ?_;simp only [go_sem,simprocAttr,c1,hga,decide_true]);(repeat' (first | ((first | (refine Jqi ?_)|(refine Jqb (hIx) ?_)|(refine Jqb (hI0) ?_)|(refine Jqa (hU) ?_));simp only [go_sem,simprocAttr,Bool.true_bne,Bool.not_true,Bool.not_false,e7,e4,e8])|(exfalso;omega)))
        all_goals exact hno fun h=>by have:=h.1.2.2 o8;simp only at this;rw [hva] at this;cases this
       | true =>
        rw [hva] at hU;by_cases hin:nm'∈(kids.list.take q).map (·.1)
        ·rw [decide_eq_true hin] at hH;(refine lws ?_;simp only [go_sem,simprocAttr,c1,hga,decide_true]);(repeat' (first | ((first | (refine Jqi ?_)|(refine Jqb (hIx) ?_)|(refine Jqb (hI0) ?_)|(refine Jqa (hU) ?_)|(refine Jqa (hH) ?_));simp only [go_sem,simprocAttr,Bool.true_bne,Bool.not_true,e7,e4,e8])|(exfalso;omega)))
         all_goals exact hno fun h=>h.2.2 o8 hin
        ·rw [decide_eq_false hin] at hH;have hy:Jsj k kids.list q (nm',.mk k' s' g' e' kids'):=⟨⟨hkd,fun h=>absurd o8 h,fun _=>hva⟩,fun h=>absurd h o4,fun _=>hin⟩
         (refine lws ?_;simp only [go_sem,simprocAttr,c1,hga,decide_true]);(repeat' (first | ((first | (refine Jqi ?_)|(refine Jqb (hIx) ?_)|(refine Jqb (hI0) ?_)|(refine Jqa (hU) ?_)|(refine Jqa (hH) ?_)|(refine Jqa (hNx) ?_));simp only [go_sem,simprocAttr,w1,Bool.true_bne,Bool.not_true,e7,e4,e8])|(exfalso;omega)))
         all_goals exact ⟨q+1,⟨by omega,hyes hy⟩,by omega,Jqe⟩
      ·have e8:=eq_false o8;by_cases n0:nm'=[]
       ·have fn:=eq_true n0;have hy:Jsj k kids.list q (nm',.mk k' s' g' e' kids'):=⟨⟨hkd,fun _=>n0,fun h=>absurd h o8⟩,fun h=>absurd h o4,fun h=>absurd h o8⟩
        (refine lws ?_;simp only [go_sem,simprocAttr,c1,hga,decide_true]);(repeat' (first | ((first | (refine Jqi ?_)|(refine Jqb (hIx) ?_)|(refine Jqb (hI0) ?_)|(refine Jqa (hNx) ?_));simp only [go_sem,simprocAttr,w1,Bool.true_bne,Bool.not_true,e7,e4,e8,fn]) | fail))
        all_goals exact ⟨q+1,⟨by omega,hyes hy⟩,by omega,Jqe⟩
       ·have fn:=eq_false n0;(refine lws ?_;simp only [go_sem,simprocAttr,c1,hga,decide_true]);(repeat' (first | ((first | (refine Jqi ?_)|(refine Jqb (hIx) ?_)|(refine Jqb (hI0) ?_));simp only [go_sem,simprocAttr,Bool.true_bne,Bool.not_true,e7,e4,e8,fn]) | fail))
        all_goals exact hno fun h=>n0 (h.1.2.1 o8)
    ·have e7:=eq_false o7;(refine lws ?_;simp only [go_sem,simprocAttr,c1,hga,decide_true]);(repeat' (first | ((first | (refine Jqi ?_)|(refine Jqb (hIx) ?_)|(refine Jqb (hI0) ?_));simp only [go_sem,simprocAttr,Bool.true_bne,Bool.not_true,e7]) | fail))
     all_goals exact hno fun h=>(h.1.1.1 hX).elim hY o7
  ·rw [decide_eq_false hX] at hIx;by_cases hY:Jqj k
   ·rw [decide_eq_true hY] at hI0;(refine lws ?_;simp only [go_sem,simprocAttr,c1,hga,decide_true]);(repeat' (first | ((first | (refine Jqi ?_)|(refine Jqb (hIx) ?_)|(refine Jqb (hI0) ?_));simp only [go_sem,simprocAttr,Bool.bne_true,Bool.not_false]) | fail))
    all_goals exact hno fun h=>hX (h.1.1.2 (.inl hY))
   ·rw [decide_eq_false hY] at hI0;by_cases o7:k=7
    ·have e7:=eq_true o7;(refine lws ?_;simp only [go_sem,simprocAttr,c1,hga,decide_true]);(repeat' (first | ((first | (refine Jqi ?_)|(refine Jqb (hIx) ?_)|(refine Jqb (hI0) ?_));simp only [go_sem,simprocAttr,Bool.false_bne,e7]) | fail))
     all_goals exact hno fun h=>hX (h.1.1.2 (.inr o7))
    ·have e7:=eq_false o7;have hkd:Jqj k' ↔ Jqj k∨k=7:=⟨fun h=>absurd h hX,fun h=>(h.elim hY o7).elim⟩
     by_cases o4:k=4
     ·have e4:=eq_true o4;have e8:(k=8)=False:=eq_false omg;by_cases q0:q=0
      ·have f0:((q:Int)=0)=True:=eq_true omg;by_cases k4:k'=4
       ·have g4:=eq_true k4;(refine lws ?_;simp only [go_sem,simprocAttr,c1,hga,decide_true]);(repeat' (first | ((first | (refine Jqi ?_)|(refine Jqb (hIx) ?_)|(refine Jqb (hI0) ?_));simp only [go_sem,simprocAttr,Bool.false_bne,e7,e4,f0,g4]) | fail))
        all_goals exact hno fun h=>h.2.1 o4 q0 k4
       ·have g4:=eq_false k4;by_cases n0:nm'=[]
        ·have fn:=eq_true n0;have hy:Jsj k kids.list q (nm',.mk k' s' g' e' kids'):=⟨⟨hkd,fun _=>n0,fun h=>absurd h omg⟩,fun _ _=>k4,fun h=>absurd h omg⟩
         (refine lws ?_;simp only [go_sem,simprocAttr,c1,hga,decide_true]);(repeat' (first | ((first | (refine Jqi ?_)|(refine Jqb (hIx) ?_)|(refine Jqb (hI0) ?_)|(refine Jqa (hNx) ?_));simp only [go_sem,simprocAttr,w1,Bool.false_bne,Bool.not_true,e7,e4,e8,f0,g4,fn]) | fail))
         all_goals exact ⟨q+1,⟨by omega,hyes hy⟩,by omega,Jqe⟩
        ·have fn:=eq_false n0;(refine lws ?_;simp only [go_sem,simprocAttr,c1,hga,decide_true]);(repeat' (first | ((first | (refine Jqi ?_)|(refine Jqb (hIx) ?_)|(refine Jqb (hI0) ?_));simp only [go_sem,simprocAttr,Bool.false_bne,Bool.not_true,e7,e4,e8,f0,g4,fn]) | fail))
         all_goals exact hno fun h=>n0 (h.1.2.1 omg)
      ·have f0:((q:Int)=0)=False:=eq_false omg;by_cases n0:nm'=[]
       ·have fn:=eq_true n0;have hy:Jsj k kids.list q (nm',.mk k' s' g' e' kids'):=⟨⟨hkd,fun _=>n0,fun h=>absurd h omg⟩,fun _ h=>absurd h q0,fun h=>absurd h omg⟩
        (refine lws ?_;simp only [go_sem,simprocAttr,c1,hga,decide_true]);(repeat' (first | ((first | (refine Jqi ?_)|(refine Jqb (hIx) ?_)|(refine Jqb (hI0) ?_)|(refine Jqa (hNx) ?_));simp only [go_sem,simprocAttr,w1,Bool.false_bne,Bool.not_true,e7,e4,e8,f0,fn]) | fail))
        all_goals exact ⟨q+1,⟨by omega,hyes hy⟩,by omega,Jqe⟩
       ·have fn:=eq_false n0;(refine lws ?_;simp only [go_sem,simprocAttr,c1,hga,decide_true]);(repeat' (first | ((first | (refine Jqi ?_)|(refine Jqb (hIx) ?_)|(refine Jqb (hI0) ?_));simp only [go_sem,simprocAttr,Bool.false_bne,Bool.not_true,e7,e4,e8,f0,fn]) | fail))
        all_goals exact hno fun h=>n0 (h.1.2.1 omg)
     ·have e4:=eq_false o4;by_cases o8:k=8
      ·have e8:=eq_true o8;cases hva:valid nm' with
       | false =>
        rw [hva] at hU;(refine lws ?_;simp only [go_sem,simprocAttr,c1,hga,decide_true]);(repeat' (first | ((first | (refine Jqi ?_)|(refine Jqb (hIx) ?_)|(refine Jqb (hI0) ?_)|(refine Jqa (hU) ?_));simp only [go_sem,simprocAttr,Bool.false_bne,Bool.not_false,e7,e4,e8]) | fail))
        all_goals exact hno fun h=>by have:=h.1.2.2 o8;simp only at this;rw [hva] at this;cases this
       | true =>
        rw [hva] at hU;by_cases hin:nm'∈(kids.list.take q).map (·.1)
        ·rw [decide_eq_true hin] at hH;(refine lws ?_;simp only [go_sem,simprocAttr,c1,hga,decide_true]);(repeat' (first | ((first | (refine Jqi ?_)|(refine Jqb (hIx) ?_)|(refine Jqb (hI0) ?_)|(refine Jqa (hU) ?_)|(refine Jqa (hH) ?_));simp only [go_sem,simprocAttr,Bool.false_bne,Bool.not_true,e7,e4,e8]) | fail))
         all_goals exact hno fun h=>h.2.2 o8 hin
        ·rw [decide_eq_false hin] at hH;have hy:Jsj k kids.list q (nm',.mk k' s' g' e' kids'):=⟨⟨hkd,fun h=>absurd o8 h,fun _=>hva⟩,fun h=>absurd h o4,fun _=>hin⟩
         (refine lws ?_;simp only [go_sem,simprocAttr,c1,hga,decide_true]);(repeat' (first | ((first | (refine Jqi ?_)|(refine Jqb (hIx) ?_)|(refine Jqb (hI0) ?_)|(refine Jqa (hU) ?_)|(refine Jqa (hH) ?_)|(refine Jqa (hNx) ?_));simp only [go_sem,simprocAttr,w1,Bool.false_bne,Bool.not_true,e7,e4,e8]) | fail))
         all_goals exact ⟨q+1,⟨by omega,hyes hy⟩,by omega,Jqe⟩
      ·have e8:=eq_false o8;by_cases n0:nm'=[]
       ·have fn:=eq_true n0;have hy:Jsj k kids.list q (nm',.mk k' s' g' e' kids'):=⟨⟨hkd,fun _=>n0,fun h=>absurd h o8⟩,fun h=>absurd h o4,fun h=>absurd h o8⟩
        (refine lws ?_;simp only [go_sem,simprocAttr,c1,hga,decide_true]);(repeat' (first | ((first | (refine Jqi ?_)|(refine Jqb (hIx) ?_)|(refine Jqb (hI0) ?_)|(refine Jqa (hNx) ?_));simp only [go_sem,simprocAttr,w1,Bool.false_bne,Bool.not_true,e7,e4,e8,fn]) | fail))
        all_goals exact ⟨q+1,⟨by omega,hyes hy⟩,by omega,Jqe⟩
       ·have fn:=eq_false n0;(refine lws ?_;simp only [go_sem,simprocAttr,c1,hga,decide_true]);(repeat' (first | ((first | (refine Jqi ?_)|(refine Jqb (hIx) ?_)|(refine Jqb (hI0) ?_));simp only [go_sem,simprocAttr,Bool.false_bne,Bool.not_true,e7,e4,e8,fn]) | fail))
        all_goals exact hno fun h=>n0 (h.1.2.1 o8)
 ·obtain rfl:q=kids.len:=by omega
  have c1:((kids.len:Int)<(kids.len:Int))=False:=eq_false omg;have hK:Jrf k kids.list:=Jzd.2 fun r p hp=>h2 r p (by rw [← hkl];exact (List.getElem?_eq_some_iff.1 hp).1) hp
  (refine lws ?_;simp only [go_sem,simprocAttr,c1]);exact J01 hK
theorem Jy5 (v:List YRow) (hv:v.length≤10000) (hf:∀ n∈v,RowFit n):Det cx 26 [.p (.sl (rowL v))] [] (.p (.bool (Jsy v))) []:=by
 cases v with
 | nil =>
  have hb:false=Jsy []:=Jto (by
   rintro ⟨t,_,h⟩;have:=congrArg List.length h;have h1:=Jrj t [];simp at this;omega)
  have c0:(((rowL []).length:Int)=0)=True:=eq_true rfl;rw [← hb];(refine bgo Tryz.func26 ?_;simp only [go_sem,simprocAttr,c0])
  skip
 | cons n r =>
  have hg0:=Jtb (v:=n :: r) (i:=0) (n:=n) rfl;have c0:(((n :: r).length:Int)=0)=False:=eq_false (by simp;omega);have hN:=J2z (n :: r) hv;generalize hvv:n :: r=v at *
  by_cases hnm:n.name=[]
  ·have c2:=eq_true hnm;by_cases hnx:Jsi v 0 1=v.length
   ·obtain ⟨nm,t,ht⟩:=J2l hnx;have htk:nm=[]:=by
     cases t with
     | mk k s g e kids =>
      rw [Jqk,← hvv] at ht;have:=(List.cons.inj ht).1;rw [this] at hnm;exact hnm
    subst htk;have c3:(Jsi v 0 1=(v.length:Int))=True:=eq_true hnx;(refine bgo Tryz.func26 ?_;simp only [go_sem,simprocAttr,Jqc,hg0,c0,c2,not_true_eq_false]);(repeat' (first | ((refine Jqa (hN) ?_);simp only [go_sem,simprocAttr,Jqc,c3,not_true_eq_false]) | fail));have hB:∀ b:Bool,(b=true ↔ okQ t)→b=Jsy v:=by
     intro b hb;rw [Bool.eq_iff_iff,hb,Jsu,ht,Jyi]
    refine SWP.loop (fun x:Nat×RF=>⟨Ba 39 [(0,.p (.sl (rowL v))),(3,.p (.int .i64 x.1))],[]⟩) (fun x=>v.drop x.1=x.2.enc∧x.1+x.2.enc.length=v.length∧(okQ t ↔ okQF x.2)) (fun x=>v.length - x.1) (0,.cons [] t .nil) Jqe ⟨by rw [Jqh,Jq0,List.append_nil,List.drop_zero,ht],by rw [Jqh,Jq0,List.append_nil,ht];simp,by rw [Jqo];exact ⟨fun h=>⟨h,Jrp⟩,fun h=>h.1⟩⟩ ?_;rintro ⟨i,F⟩ ⟨h1,h2,h3⟩;simp only at h1 h2 h3
    match F,h1,h2,h3 with
    | .nil,h1,h2,h3 =>
     rw [Jq0] at h2;have c4:((i:Int)<(v.length:Int))=False:=eq_false (by simp at h2;omega);(refine lws ?_;simp only [go_sem,simprocAttr,Jqc,decide_false,c4]);exact hB true (by rw [h3];simp [Jrp])
    | .cons nm' (.mk k s g e kids) r,h1,h2,h3 =>
     rw [Jqh,Jqk] at h1 h2;simp only [List.length_append,List.length_cons] at h2;have c4:((i:Int)<(v.length:Int))=True:=eq_true omg;have hga:=Jr8 h1;rw [Jrc] at hga;have w1:=wj1 (i:=i) omg;rw [J4k] at h3;have hmem:(⟨k,kids.len,nm',s,g,e⟩:YRow)∈v:=by
      have:(⟨k,kids.len,nm',s,g,e⟩:YRow)∈v.drop i:=by rw [h1];simp
      exact List.mem_of_mem_drop this
     have hfn:=hf _ hmem;have hpl:=J3x k kids.len nm' s g e hfn.s hfn.c;have hri:=J3z v i nm' k s g e kids r.enc omg (by rw [h1,Jqk]) fun n hn=>(hf n hn).name
     by_cases hn1:Jqf k s g e kids.len
     ·rw [decide_eq_true hn1] at hpl;by_cases hk1:Jrf k kids.list
      ·rw [← J01 hk1] at hri;(refine lws ?_;simp only [go_sem,simprocAttr,Jqc,decide_true,c4,hga,decide_true]);(repeat' (first | ((first | (refine Jqa (hpl) ?_)|(refine Jqa (hri) ?_));simp only [go_sem,simprocAttr,w1,Bool.not_true]) | fail));refine ⟨(i+1,kids.app r),⟨?_,?_,h3.trans ⟨fun h=>h.2.2,fun h=>⟨hn1,hk1,h⟩⟩⟩,?_,Jqe⟩
       ·simp only;rw [← List.drop_drop,h1,Jqp];rfl
       ·simp only;rw [Jqp,List.length_append];omega
       ·simp only;omega
      ·rw [← J1w hk1] at hri;(refine lws ?_;simp only [go_sem,simprocAttr,Jqc,decide_true,c4,hga,decide_true]);(repeat' (first | ((first | (refine Jqa (hpl) ?_)|(refine Jqa (hri) ?_));simp only [go_sem,simprocAttr,Bool.not_true,Bool.not_false]) | fail));exact hB false (by rw [h3];simp [hk1])
     ·rw [decide_eq_false hn1] at hpl;(refine lws ?_;simp only [go_sem,simprocAttr,Jqc,decide_true,c4,hga,decide_true]);(repeat' (first | ((refine Jqa (hpl) ?_);simp only [go_sem,simprocAttr,Bool.not_false]) | fail));exact hB false (by rw [h3];simp [hn1])
   ·have c3:(Jsi v 0 1=(v.length:Int))=False:=eq_false hnx;have hb:=Jto (v:=v) (fun h=>hnx (J1s h));rw [← hb];(refine bgo Tryz.func26 ?_;simp only [go_sem,simprocAttr,Jqc,hg0,c0,c2,not_true_eq_false]);(repeat' (first | ((refine Jqa (hN) ?_);simp only [go_sem,simprocAttr,Jqc,c3,not_false_eq_true]) | fail))
  ·have c2:=eq_false hnm;have hb:=Jto (v:=v) (by
    rintro ⟨t,_,h⟩;cases t with
    | mk k s g e kids =>
     rw [Jqk,← hvv] at h;have:=(List.cons.inj h).1;rw [this] at hnm;exact hnm rfl)
   rw [← hb];(refine bgo Tryz.func26 ?_;simp only [go_sem,simprocAttr,Jqc,hg0,c0,c2,not_false_eq_true])
   skip
theorem Jwm (v:List YRow) (hv:v.length≤10000) (hf:∀ n∈v,RowFit n):Det cx 15 [.p (.sl (rowL v))] [] (.p (.bool (Jq9 v))) []:=by
 have hW:=Jy5 v hv hf;cases hb:Jsy v with
 | false =>
  have:false=Jq9 v:=Jq4 fun ⟨t,h1,_,h3⟩=>by
   rw [Jsu.2 ⟨t,h1,h3⟩] at hb;cases hb
  rw [hb] at hW;rw [← this];(refine bgo Tryz.func15 ?_;simp only [go_sem,simprocAttr]);(repeat' (first | ((refine Jqa (hW) ?_);simp only [go_sem,simprocAttr]) | fail))
 | true =>
  obtain ⟨⟨k,s,n,c,kids⟩,ht,rfl⟩:=Jsu.1 hb;rw [hb] at hW;have hI:=Jz5 k kids.len [] s n c;have hg0:(rowL ((RT.mk k s n c kids).enc []))[0]? = some [.int .i64 k,.int .i64 kids.len,.str [],.str s,.int .i64 n,.int .i64 c.kind,.int .i64 c.many,.str c.name,.str c.s,.bool c.neg,.int .i64 c.e]:=by rw [Jqk];rfl
  by_cases hc:Jqj k
  ·have:false=Jq9 ((RT.mk k s n c kids).enc []):=Jq4 fun h=>(Jr3.1 h).2 hc
   rw [decide_eq_true hc] at hI;rw [← this];generalize rowL ((RT.mk k s n c kids).enc [])=rows at *
   (refine bgo Tryz.func15 ?_;simp only [go_sem,simprocAttr]);(repeat' (first | ((first | (refine Jqa (hW) ?_)|(refine Jqa (hI) ?_));simp only [go_sem,simprocAttr,hg0,Bool.not_true]) | fail))
  ·have:Jq9 ((RT.mk k s n c kids).enc [])=true:=Jrr.2 (Jr3.2 ⟨ht,hc⟩);rw [decide_eq_false hc] at hI;rw [this];generalize rowL ((RT.mk k s n c kids).enc [])=rows at *
   (refine bgo Tryz.func15 ?_;simp only [go_sem,simprocAttr]);(repeat' (first | ((first | (refine Jqa (hW) ?_)|(refine Jqa (hI) ?_));simp only [go_sem,simprocAttr,hg0,Bool.not_false]) | fail))
noncomputable def Jsx (v:List YRow) (m:Nat):Bool:=Jrt v m && Jq9 v
theorem Jtz (v:List YRow) (m:Nat) (hm':m≤1000) (hv:v.length≤9223372036854775807) (hf:∀ n∈v,ERow n):Det cx 23 [.p (.sl (rowL v)),.p (.int .i64 m)] [] (.p (.bool (Jsx v m))) []:=by
 by_cases hl:v.length≤m
 ·have c0:((m:Int)<(v.length:Int))=False:=eq_false omg;have hsh:Jrt v m=v.all shortY:=by unfold Jrt;rw [decide_eq_true hl,Bool.true_and]
  (refine bgo Tryz.func23 ?_;simp only [go_sem,simprocAttr,Jqc,c0]);refine SWP.loop (fun i:Nat=>⟨Ba 44 [(0,.p (.sl (rowL v))),(1,.p (.int .i64 m)),(5,.p (.int .i64 i))],[]⟩) (fun i=>i≤v.length∧∀ r∈v.take i,shortY r=true) (fun i=>v.length - i) 0 Jqe ⟨Nat.zero_le _,by simp⟩ ?_;rintro i ⟨hi,ha⟩;by_cases hlt:i<v.length
  ·have c1:((i:Int)<(v.length:Int))=True:=eq_true omg;obtain ⟨r,hr⟩:∃ r,v[i]? = some r:=⟨_,List.getElem?_eq_getElem hlt⟩
   have hg:=Jtb hr;have w1:=wj1 (i:=i) omg;have hno:¬ shortY r=true→false=Jsx v m:=fun hn=>by
    have:v.all shortY=false:=by
     rw [List.all_eq_false];exact ⟨r,List.mem_of_getElem? hr,hn⟩
    unfold Jsx;rw [hsh,this];rfl
   have hsr:shortY r=true ↔ r.s.length≤100∧r.name.length≤100∧r.c.s.length≤100:=by simp [shortY]
   by_cases a1:r.s.length≤100
   ·have d1:((100:Int)<(r.s.length:Int))=False:=eq_false omg;by_cases a2:r.name.length≤100
    ·have d2:((100:Int)<(r.name.length:Int))=False:=eq_false omg;by_cases a3:r.c.s.length≤100
     ·have d3:((100:Int)<(r.c.s.length:Int))=False:=eq_false omg;(refine lws ?_;simp only [go_sem,simprocAttr,Jqc,c1,hg,w1,d1,d2,d3,decide_false]);exact ⟨i+1,⟨by omega,fun x hx=>by
       rw [List.take_add_one,hr,Option.toList_some] at hx;rcases List.mem_append.1 hx with hx | hx
       ·exact ha x hx
       ·simp only [List.mem_singleton] at hx;subst hx;exact hsr.2 ⟨a1,a2,a3⟩⟩,by omega,Jqe⟩
     ·have d3:((100:Int)<(r.c.s.length:Int))=True:=eq_true omg;(refine lws ?_;simp only [go_sem,simprocAttr,Jqc,c1,hg,d1,d2,d3,decide_false,decide_true])
      all_goals exact hno fun h=>a3 (hsr.1 h).2.2
    ·have d2:((100:Int)<(r.name.length:Int))=True:=eq_true omg;(refine lws ?_;simp only [go_sem,simprocAttr,Jqc,c1,hg,d1,d2,decide_false,decide_true])
     all_goals exact hno fun h=>a2 (hsr.1 h).2.1
   ·have d1:((100:Int)<(r.s.length:Int))=True:=eq_true omg;(refine lws ?_;simp only [go_sem,simprocAttr,Jqc,c1,hg,d1,decide_true])
    all_goals exact hno fun h=>a1 (hsr.1 h).1
  ·obtain rfl:i=v.length:=by omega
   have c1:((v.length:Int)<(v.length:Int))=False:=eq_false omg;rw [List.take_length] at ha;have hR:=Jwm v omg (fun n hn=>by
    have h1:=ha n hn;have h2:=hf n hn;simp only [shortY,Bool.and_eq_true,decide_eq_true_eq] at h1;exact ⟨by omega,by omega,by omega,h2.e0,h2.e1⟩)
   rw [show Jsx v m=Jq9 v by unfold Jsx;rw [hsh,List.all_eq_true.2 ha,Bool.true_and]];(refine lws ?_;simp only [go_sem,simprocAttr,Jqc,c1]);(repeat' (first | ((refine Jqa (hR) ?_);simp only [go_sem,simprocAttr]) | fail))
 ·have c0:((m:Int)<(v.length:Int))=True:=eq_true omg;rw [show Jsx v m=false by unfold Jsx Jrt;rw [decide_eq_false hl];rfl];(refine bgo Tryz.func23 ?_;simp only [go_sem,simprocAttr,Jqc,c0])
  skip
theorem Jy3 {a b:RT}:Jqq (RF.cons [] a (.cons [] b .nil)).list=[[.sl (rowL (a.enc []))],[.sl (rowL (b.enc []))]]:=rfl
theorem J1u (a b:RT):Jrm [[⟨4,2,[],[],0,Jqt⟩],a.enc [],b.enc []]=(two a b).enc []:=by rw [Jsg];simp [Jrm]
theorem J44 (a b:RT):J50 ⟨4,0,[],[],0,Jqt⟩ [] [a.enc [],b.enc []]=(two a b).enc []:=by rw [Jsg];rfl
theorem Jx0 (a b:RT) (ha:(a.enc []).length≤3000) (hb:(b.enc []).length≤3000):Det cx 65 [.p (.sl [[.sl [[.int .i64 4,.int .i64 2,.str [],.str [],.int .i64 0,.int .i64 0,.int .i64 0,.str [],.str [],.bool false,.int .i64 0]]],[.sl (rowL (a.enc []))],[.sl (rowL (b.enc []))]])] [] (.p (.sl (rowL ((two a b).enc [])))) []:=by
 have hne:∀ t:RT,t.enc []≠[]:=fun t h=>by have:=Jrj t [];rw [h] at this;simp at this
 have h:=J38 [[⟨4,2,[],[],0,Jqt⟩],a.enc [],b.enc []] sm (by
  intro p hp;simp only [List.mem_cons,List.not_mem_nil,or_false] at hp;rcases hp with rfl | rfl | rfl
  ·simp
  ·exact hne a
  ·exact hne b) (by rw [J1u,Jsg];simp only [List.length_cons,List.length_append];omega)
 rw [J1u] at h;exact h
theorem J1y (a b:RT) (ha:(a.enc []).length≤3000) (hb:(b.enc []).length≤3000):Det cx 66 [.p (.agg [.int .i64 4,.int .i64 0,.str [],.str [],.int .i64 0,.int .i64 0,.int .i64 0,.str [],.str [],.bool false,.int .i64 0]),.p .snil,.p (.sl [[.sl (rowL (a.enc []))],[.sl (rowL (b.enc []))]])] [] (.p (.sl (rowL ((two a b).enc [])))) []:=by
 have h:=J5h ⟨4,0,[],[],0,Jqt⟩ [a.enc [],b.enc []] sm (by
  intro i hi;simp only [List.length_cons,List.length_nil] at hi;rcases (by omega:i=0∨i=1∨i=2) with rfl | rfl | rfl
  ·simp [Jrv]
  ·simp [Jrv,J3q];omega
  ·simp [Jrv,J3q];omega) (by
  intro v hv;simp only [List.mem_cons,List.not_mem_nil,or_false] at hv;rcases hv with rfl | rfl <;> omega)
 rw [J44] at h;exact h
theorem Jtw (u:RT) (hu:(u.enc []).length≤1000) (t:RT) (ho:okQ t) (hc:¬ Jqj t.kind) (hl:(t.enc []).length≤1000):Det cx 24 [.p (.sl (rowL (t.enc []))),.p (.sl (rowL (u.enc [])))] [] (.p (.sl (rowL ((Jq2 t u).enc [])))) []:=by
 refine Jst (M:=fun t=>(t.enc []).length≤1000→Det cx 24 [.p (.sl (rowL (t.enc []))),.p (.sl (rowL (u.enc [])))] [] (.p (.sl (rowL ((Jq2 t u).enc [])))) []) (fun t h1 h2 h3 hl=>?_) (fun a b ha hb ca cb h4 ih hl=>?_) _ t (Nat.le_refl _) ho hc hl
 ·have hC:=Jx0 t u omg omg;rw [Jry h3];cases t with
  | mk k s n c kids =>
   have hg0:(rowL ((RT.mk k s n c kids).enc []))[0]? = some [.int .i64 k,.int .i64 kids.len,.str [],.str s,.int .i64 n,.int .i64 c.kind,.int .i64 c.many,.str c.name,.str c.s,.bool c.neg,.int .i64 c.e]:=by rw [Jqk];rfl
   have e4:(k=4)=False:=eq_false h3;generalize rowL ((RT.mk k s n c kids).enc [])=rows at *
   (refine bgo Tryz.func24 ?_;simp only [go_sem,simprocAttr,hg0,e4]);(repeat' (first | ((refine Jqa (hC) ?_);simp only [go_sem,simprocAttr]) | fail))
 ·rw [Jsg,List.length_cons,List.length_append] at hl;have hP:=Jua [] 4 [] 0 Jqt (.cons [] a (.cons [] b .nil)) (by rw [Jqh,Jqh,Jq0,List.append_nil,List.length_append];omega);rw [Jy3] at hP;have hih:=ih omg;have hpl:=Jtu (u:=u) hb cb;have hC:=Jx0 a (Jq2 b u) omg omg;have hg0:(rowL ((two a b).enc []))[0]? = some [.int .i64 4,.int .i64 2,.str [],.str [],.int .i64 0,.int .i64 0,.int .i64 0,.str [],.str [],.bool false,.int .i64 0]:=by rw [Jsg];rfl
  rw [Jr1];change Det cx 19 [.p (.sl (rowL ((two a b).enc [])))] [] _ [] at hP;generalize rowL ((two a b).enc [])=rows at hP hg0 ⊢;(refine bgo Tryz.func24 ?_;simp only [go_sem,simprocAttr,hg0]);(repeat' (first | ((first | (refine Jqi ?_)|(refine Jqa (hP) ?_)|(refine Jqb (hih) ?_)|(refine Jqa (hC) ?_));simp only [go_sem,simprocAttr]) | fail))
theorem J7b (u:RT) (hu:(u.enc []).length≤1000) (t:RT) (ho:okQ t) (hc:¬ Jqj t.kind) (hl:(t.enc []).length≤1000):Det cx 25 [.p (.sl (rowL (t.enc []))),.p (.sl (rowL (u.enc [])))] [] (.p (.sl (rowL ((Jq2 t u).enc [])))) []:=by
 refine Jst (M:=fun t=>(t.enc []).length≤1000→Det cx 25 [.p (.sl (rowL (t.enc []))),.p (.sl (rowL (u.enc [])))] [] (.p (.sl (rowL ((Jq2 t u).enc [])))) []) (fun t h1 h2 h3 hl=>?_) (fun a b ha hb ca cb h4 ih hl=>?_) _ t (Nat.le_refl _) ho hc hl
 ·have hC:=J1y t u omg omg;rw [Jry h3];cases t with
  | mk k s n c kids =>
   have hg0:(rowL ((RT.mk k s n c kids).enc []))[0]? = some [.int .i64 k,.int .i64 kids.len,.str [],.str s,.int .i64 n,.int .i64 c.kind,.int .i64 c.many,.str c.name,.str c.s,.bool c.neg,.int .i64 c.e]:=by rw [Jqk];rfl
   have e4:(k=4)=False:=eq_false h3;generalize rowL ((RT.mk k s n c kids).enc [])=rows at *
   (refine bgo Tryz.func25 ?_;simp only [go_sem,simprocAttr,hg0,e4]);(repeat' (first | ((refine Jqa (hC) ?_);simp only [go_sem,simprocAttr]) | fail))
 ·rw [Jsg,List.length_cons,List.length_append] at hl;have hP:=Jt9 [] 4 [] 0 Jqt (.cons [] a (.cons [] b .nil)) (by rw [Jqh,Jqh,Jq0,List.append_nil,List.length_append];omega);rw [Jy3] at hP;have hih:=ih omg;have hpl:=Jtu (u:=u) hb cb;have hC:=J1y a (Jq2 b u) omg omg;have hg0:(rowL ((two a b).enc []))[0]? = some [.int .i64 4,.int .i64 2,.str [],.str [],.int .i64 0,.int .i64 0,.int .i64 0,.str [],.str [],.bool false,.int .i64 0]:=by rw [Jsg];rfl
  rw [Jr1];change Det cx 20 [.p (.sl (rowL ((two a b).enc [])))] [] _ [] at hP;generalize rowL ((two a b).enc [])=rows at hP hg0 ⊢;(refine bgo Tryz.func25 ?_;simp only [go_sem,simprocAttr,hg0]);(repeat' (first | ((first | (refine Jqi ?_)|(refine Jqa (hP) ?_)|(refine Jqb (hih) ?_)|(refine Jqb (hC) ?_));simp only [go_sem,simprocAttr]) | fail))
end Go.LX
