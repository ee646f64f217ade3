/- Types, the program: rows that have nothing that they may not have; where a path leads. -/
import Derived.Test.YtpdaccjebbbbaaaGreatDoorLxX
import Derived.Test.YtpdaccjebbbbaaaGreatDoorLxY
import Derived.Test.YtpdaccjebbbbaaaGreatDoorLxV
import Derived.Test.YtpdaccjebbbbaaaGreatDoorLxT
import Derived.Test.YtpdaccjebbbbaaaGreatDoorLxW
import Derived.Test.YtpdaccjebbbbaaaGreatDoorLxU
set_option linter.unusedSimpArgs false
set_option linter.unusedVariables false
set_option linter.unusedSectionVars false
set_option linter.unnecessarySimpa false
set_option maxRecDepth 100000
set_option maxHeartbeats 2000000
namespace Go.LX
open Go Go.RowKit Go.Proofs
attribute [local irreducible] Al SWP Bi
theorem J23 (x:Step):Det cx 72 [.p (.agg [.bool x.part,.str x.name,.int .i64 x.n])] [] (.p (.bool x.part)) []:=by
 (refine bgo Tryz.func72 ?_;simp only [go_sem,simprocAttr])
 skip
theorem J1m (p:List Step) (hp:p.length≤1000000):Det cx 100 [.p (.sl (Bb p)),.fn 72 []] [] (.p (.int .i64 (idxF (fldB p) p.length 0))) []:=by
 (refine bgo Tryz.func100 ?_;simp only [go_sem,simprocAttr,Aq]);refine SWP.loop (fun i:Nat=>⟨Ba 19 [(0,.p (.sl (Bb p))),(1,.fn 72 []),(7,.p (.int .i64 p.length)),(8,.p (.int .i64 i))],[]⟩) (fun i=>i≤p.length∧idxF (fldB p) p.length 0=idxF (fldB p) (p.length - i) i) (fun i=>p.length - i) 0 Jqc ⟨Nat.zero_le _,rfl⟩ ?_;rintro i ⟨h2,h4⟩;by_cases hi:¬ i<p.length
 ·have c9:((i:Int)<(p.length:Int))=False:=eq_false omg;rw [show p.length - i=0 by omega,idxF] at h4;(refine lws ?_;simp only [go_sem,simprocAttr,c9]);rw [h4]
 ·have hi:=Decidable.not_not.1 hi;have c9:((i:Int)<(p.length:Int))=True:=eq_true omg;obtain ⟨x,hq⟩:∃ x,p[i]? = some x:=⟨_,List.getElem?_eq_getElem hi⟩
  obtain ⟨k,hk1⟩:∃ k,p.length - i=k+1:=⟨p.length - i - 1,by omega⟩
  have hg:=Dk hq;have hA:=J23 x;rw [hk1,idxF,show fldB p i = !x.part by rw [fldB,hq]] at h4;cases hb:x.part with
  | true =>
   rw [hb] at hA h4 hg;(refine lws ?_;simp only [go_sem,simprocAttr,c9,hg]);(repeat' (first | ((refine Jqa (hA) ?_);simp only [go_sem,simprocAttr]) | fail));rw [h4];rfl
  | false =>
   rw [hb,Bool.not_false,if_pos rfl] at h4;rw [hb] at hA hg;(refine lws ?_;simp only [go_sem,simprocAttr,c9,hg,wj1 (i:=i) omg]);(repeat' (first | ((refine Jqa (hA) ?_);simp only [go_sem,simprocAttr,wj1 (i:=i) omg]) | fail));exact ⟨i+1,⟨by omega,by rw [h4,show p.length - (i+1)=k by omega]⟩,by omega,Jqc⟩
theorem Jxp (p:List Step) (hp:p.length≤1000000):Det cx 71 [.p (.sl (Bb p)),.fn 72 []] [] (.p (.bool (!Jt7 p))) []:=by
 have hI:=J1m p hp;(refine bgo Tryz.func71 ?_;simp only [go_sem,simprocAttr]);(repeat' (first | ((refine Jqa (hI) ?_);simp only [go_sem,simprocAttr]) | fail));rw [← Jy5 (p:=p) (m:=p) (i:=0) rfl,← Jx2]
theorem J02 (s:List UInt8) (hs:s.length≤1000000):Det cx 51 [.p (.str s)] [] (.tup [.sl (Bb (Je s).1),.bool (decide (fldS s))]) []:=by
 have hR:=Jjx s hs;have hl:=(Jwi s).1;have hC:=Jxp (Je s).1 omg;by_cases h0:(Je s).2.2=0
 ·have c1:(((Je s).2.2:Int)=0)=True:=eq_true omg;have:decide (fldS s)=Jt7 (Je s).1:=by
   rw [Bool.eq_iff_iff,decide_eq_true_eq];unfold fldS Jt7;simp [h0]
  rw [this];(refine bgo Tryz.func51 ?_;simp only [go_sem,simprocAttr]);(repeat' (first | ((first | (refine Jqa (hR) ?_)|(refine Jqa (hC) ?_));simp only [go_sem,simprocAttr,c1,Bool.not_not]) | fail))
 ·have c1:(((Je s).2.2:Int)=0)=False:=eq_false omg;have:decide (fldS s)=false:=decide_eq_false fun h=>h0 h.1
  rw [this];(refine bgo Tryz.func51 ?_;simp only [go_sem,simprocAttr]);(repeat' (first | ((refine Jqa (hR) ?_);simp only [go_sem,simprocAttr,c1]) | fail))
theorem Jzz (n:Node) (hs:n.s.length≤1000000):Det cx 64 [.p (.agg [.int .i64 n.kind,.int .i64 n.many,.str n.name,.str n.s,.bool n.neg,.int .i64 n.e])] [] (.p (.bool (decide (Jqk n)))) []:=by
 by_cases hk:n.kind<5
 ·have hR:=J20 n hk hs;have c1:=eq_true hk;(refine bgo Tryz.func64 ?_;simp only [go_sem,simprocAttr,c1]);(repeat' (first | ((refine Jqa (hR) ?_);simp only [go_sem,simprocAttr]) | fail))
 ·have c1:=eq_false hk;rw [decide_eq_false (show ¬ Jqk n from fun h=>hk h.1)];(refine bgo Tryz.func64 ?_;simp only [go_sem,simprocAttr,c1])
  skip
theorem J8q (n:Int) (c:Node) (hs:c.s.length≤1000000):Det cx 68 [.p (.agg [.int .i64 n,.int .i64 c.kind,.int .i64 c.many,.str c.name,.str c.s,.bool c.neg,.int .i64 c.e])] [] (.p (.bool (decide (Jrg n c)))) []:=by
 have hP:=Jzz c hs;(refine bgo Tryz.func68 ?_;simp only [go_sem,simprocAttr]);(repeat' (first | (apply iteI <;> intro h)|((refine Jqa (hP) ?_);simp only [go_sem,simprocAttr]) | fail))
 all_goals (first
  | (rw [decide_eq_false (fun h':Jrg n c=>by unfold Jrg at h';omega)])
  | (clear hP;rw [Bool.eq_iff_iff];simp only [Jrg,decide_eq_true_eq];simp_all))
theorem J4p (k m:Int) (nm s:List UInt8) (n:Int) (c:Node) (hs:s.length≤1000000) (hf:NodeFitC c):Det cx 49 [.p (.agg [.int .i64 k,.int .i64 m,.str nm,.str s,.int .i64 n,.int .i64 c.kind,.int .i64 c.many,.str c.name,.str c.s,.bool c.neg,.int .i64 c.e])] [] (.p (.bool (decide (Jqu k s n c m)))) []:=by
 have hA:=J8q n c hf.s;have hP:=J02 s hs;by_cases k0:k=0
 ·subst k0;(refine bgo Tryz.func49 ?_;simp only [go_sem,simprocAttr]);(repeat' (apply iteI <;> intro h))
  all_goals (clear hA hP hf hs)
  all_goals (rw [Bool.eq_iff_iff])
  all_goals (simp only [Jqu,Jq6,decide_eq_true_eq,Int.reduceEq,if_true,if_false,true_or,or_true,or_false,false_or,or_self,ite_true,ite_false,reduceIte])
  all_goals (try simp_all)
  all_goals (try omega)
  all_goals (try (constructor <;> (rintro ⟨a1,a2,a3⟩;exact ⟨a2,a1,a3⟩)))
 by_cases k1:k=1
 ·subst k1;(refine bgo Tryz.func49 ?_;simp only [go_sem,simprocAttr]);(repeat' (apply iteI <;> intro h))
  all_goals (clear hA hP hf hs)
  all_goals (rw [Bool.eq_iff_iff])
  all_goals (simp only [Jqu,Jq6,decide_eq_true_eq,Int.reduceEq,if_true,if_false,true_or,or_true,or_false,false_or,or_self,ite_true,ite_false,reduceIte])
  all_goals (try simp_all)
  all_goals (try omega)
  all_goals (try (constructor <;> (rintro ⟨a1,a2,a3⟩;exact ⟨a2,a1,a3⟩)))
 by_cases k2:k=2
 ·subst k2;(refine bgo Tryz.func49 ?_;simp only [go_sem,simprocAttr]);(repeat' (apply iteI <;> intro h))
  all_goals (clear hA hP hf hs)
  all_goals (rw [Bool.eq_iff_iff])
  all_goals (simp only [Jqu,Jq6,decide_eq_true_eq,Int.reduceEq,if_true,if_false,true_or,or_true,or_false,false_or,or_self,ite_true,ite_false,reduceIte])
  all_goals (try simp_all)
  all_goals (try omega)
  all_goals (try (constructor <;> (rintro ⟨a1,a2,a3⟩;exact ⟨a2,a1,a3⟩)))
 by_cases k3:k=3
 ·subst k3;(refine bgo Tryz.func49 ?_;simp only [go_sem,simprocAttr]);(repeat' (apply iteI <;> intro h))
  all_goals (clear hA hP hf hs)
  all_goals (rw [Bool.eq_iff_iff])
  all_goals (simp only [Jqu,Jq6,decide_eq_true_eq,Int.reduceEq,if_true,if_false,true_or,or_true,or_false,false_or,or_self,ite_true,ite_false,reduceIte])
  all_goals (try simp_all)
  all_goals (try omega)
  all_goals (try (constructor <;> (rintro ⟨a1,a2,a3⟩;exact ⟨a2,a1,a3⟩)))
 by_cases k4:k=4
 ·subst k4;(refine bgo Tryz.func49 ?_;simp only [go_sem,simprocAttr]);(repeat' (apply iteI <;> intro h))
  all_goals (clear hA hP hf hs)
  all_goals (rw [Bool.eq_iff_iff])
  all_goals (simp only [Jqu,Jq6,decide_eq_true_eq,Int.reduceEq,if_true,if_false,true_or,or_true,or_false,false_or,or_self,ite_true,ite_false,reduceIte])
  all_goals (try simp_all)
  all_goals (try omega)
  all_goals (try (constructor <;> (rintro ⟨a1,a2,a3⟩;exact ⟨a2,a1,a3⟩)))
 by_cases k5:k=5
 ·subst k5;(refine bgo Tryz.func49 ?_;simp only [go_sem,simprocAttr]);(repeat' (apply iteI <;> intro h))
  all_goals (clear hA hP hf hs)
  all_goals (rw [Bool.eq_iff_iff])
  all_goals (simp only [Jqu,Jq6,decide_eq_true_eq,Int.reduceEq,if_true,if_false,true_or,or_true,or_false,false_or,or_self,ite_true,ite_false,reduceIte])
  all_goals (try simp_all)
  all_goals (try omega)
  all_goals (try (constructor <;> (rintro ⟨a1,a2,a3⟩;exact ⟨a2,a1,a3⟩)))
 by_cases k6:k=6
 ·subst k6;(refine bgo Tryz.func49 ?_;simp only [go_sem,simprocAttr]);(repeat' (apply iteI <;> intro h))
  all_goals (clear hA hP hf hs)
  all_goals (rw [Bool.eq_iff_iff])
  all_goals (simp only [Jqu,Jq6,decide_eq_true_eq,Int.reduceEq,if_true,if_false,true_or,or_true,or_false,false_or,or_self,ite_true,ite_false,reduceIte])
  all_goals (try simp_all)
  all_goals (try omega)
  all_goals (try (constructor <;> (rintro ⟨a1,a2,a3⟩;exact ⟨a2,a1,a3⟩)))
 by_cases k7:k=7
 ·subst k7;(refine bgo Tryz.func49 ?_;simp only [go_sem,simprocAttr]);(repeat' (first | (apply iteI <;> intro h)|((refine Jqa (hP) ?_);simp only [go_sem,simprocAttr]) | fail))
  all_goals (clear hA hP hf hs)
  all_goals (rw [Bool.eq_iff_iff])
  all_goals (simp only [Jqu,Jq6,decide_eq_true_eq,Int.reduceEq,if_true,if_false,true_or,or_true,or_false,false_or,or_self,ite_true,ite_false,reduceIte])
  all_goals (try simp_all)
  all_goals (try omega)
  all_goals (try (constructor <;> (rintro ⟨a1,a2,a3⟩;exact ⟨a2,a1,a3⟩)))
 by_cases k8:k=8
 ·subst k8;(refine bgo Tryz.func49 ?_;simp only [go_sem,simprocAttr]);(repeat' (first | (apply iteI <;> intro h)|((refine Jqa (hP) ?_);simp only [go_sem,simprocAttr]) | fail))
  all_goals (clear hA hP hf hs)
  all_goals (rw [Bool.eq_iff_iff])
  all_goals (simp only [Jqu,Jq6,decide_eq_true_eq,Int.reduceEq,if_true,if_false,true_or,or_true,or_false,false_or,or_self,ite_true,ite_false,reduceIte])
  all_goals (try simp_all)
  all_goals (try omega)
  all_goals (try (constructor <;> (rintro ⟨a1,a2,a3⟩;exact ⟨a2,a1,a3⟩)))
 by_cases k9:k=9
 ·subst k9;(refine bgo Tryz.func49 ?_;simp only [go_sem,simprocAttr]);refine Je9 (.node 0 (.node 1 (.node 2 (.node 3 (.node 4 (.node 5 (.node 6 (.node 7 .leaf .nil) .nil) .nil) .nil) (.node 4 (.node 3 (.node 5 (.node 6 (.node 7 .leaf .nil) .nil) .nil) (.node 5 (.node 3 (.node 6 (.node 7 .leaf .nil) .nil) .nil) .nil)) .nil)) (.node 4 (.node 2 (.node 3 (.node 5 (.node 6 (.node 7 .leaf .nil) .nil) .nil) (.node 5 (.node 3 (.node 6 (.node 7 .leaf .nil) .nil) .nil) .nil)) (.node 5 (.node 2 (.node 3 (.node 6 (.node 7 .leaf .nil) .nil) .nil) .nil) .nil)) .nil)) (.node 2 (.node 1 (.node 3 (.node 4 (.node 5 (.node 6 (.node 7 .leaf .nil) .nil) .nil) .nil) (.node 4 (.node 3 (.node 5 (.node 6 (.node 7 .leaf .nil) .nil) .nil) (.node 5 (.node 3 (.node 6 (.node 7 .leaf .nil) .nil) .nil) .nil)) .nil)) (.node 3 (.node 1 (.node 4 (.node 5 (.node 6 (.node 7 .leaf .nil) .nil) .nil) .nil) .nil) .nil)) .nil)) (.node 2 (.node 0 (.node 1 (.node 3 (.node 4 (.node 5 (.node 6 (.node 7 .leaf .nil) .nil) .nil) .nil) (.node 4 (.node 3 (.node 5 (.node 6 (.node 7 .leaf .nil) .nil) .nil) (.node 5 (.node 3 (.node 6 (.node 7 .leaf .nil) .nil) .nil) .nil)) .nil)) (.node 3 (.node 1 (.node 4 (.node 5 (.node 6 (.node 7 .leaf .nil) .nil) .nil) .nil) .nil) .nil)) (.node 3 (.node 0 (.node 1 (.node 4 (.node 5 (.node 6 (.node 7 .leaf .nil) .nil) .nil) .nil) .nil) .nil) .nil)) .nil)) ⟨Ba 112 [(1,.ptr 1 0 0),(3,.ptr 3 0 0)],[(3,.var 25 [.p (.int .i64 9),.p (.int .i64 m),.p (.str nm),.p (.str []),.p (.int .i64 n),.p (.int .i64 c.kind),.p (.int .i64 c.many),.p (.str c.name),.p (.str c.s),.p (.bool c.neg),.p (.int .i64 c.e)]),(1,.var 25 [.p (.int .i64 9),.p (.int .i64 m),.p (.str nm),.p (.str s),.p (.int .i64 n),.p (.int .i64 c.kind),.p (.int .i64 c.many),.p (.str c.name),.p (.str c.s),.p (.bool c.neg),.p (.int .i64 c.e)])]⟩ hm krf ?_ ?_
  ·simp (maxSteps:=100000000) only [go_sem,simprocAttr];(repeat' apply And.intro)
   all_goals first
    | exact trivial
    | (show St.Le _ _;exact Jqc)
  simp only [go_sem,simprocAttr];(repeat' (first | (apply iteI <;> intro h)|((refine Jqa (hA) ?_);simp only [go_sem,simprocAttr]) | fail))
  all_goals (clear hA hP hf hs)
  all_goals (rw [Bool.eq_iff_iff])
  all_goals (simp only [Jqu,Jq6,decide_eq_true_eq,Int.reduceEq,if_true,if_false,true_or,or_true,or_false,false_or,or_self,ite_true,ite_false,reduceIte])
  all_goals (try simp_all)
  all_goals (try omega)
  all_goals (try (constructor <;> (rintro ⟨a1,a2,a3⟩;exact ⟨a2,a1,a3⟩)))
 have hne:∀ j,j=0∨j=1∨j=2∨j=3∨j=4∨j=5∨j=6∨j=7∨j=8∨j=9→(k=j)=False:=fun j hj=>eq_false omg
 rw [show decide (Jqu k s n c m)=false from decide_eq_false (by unfold Jqu;simp [k0,k1,k2,k3,k4,k5,k6,k7,k8,k9])];have n0:=hne 0 omg;have n1:=hne 1 omg;have n2:=hne 2 omg;have n3:=hne 3 omg;have n4:=hne 4 omg;have n5:=hne 5 omg;have n6:=hne 6 omg;have n7:=hne 7 omg;have n8:=hne 8 omg;have n9:=hne 9 omg;(refine bgo Tryz.func49 ?_;simp only [go_sem,simprocAttr,n0,n1,n2,n3,n4,n5,n6,n7,n8,n9])
 skip
def offR:List RKT→Nat→Nat
 | [],_=>0
 | _ :: _,0=>0
 | p :: l,k+1=>(p.2.enc p.1).length+offR l k
theorem Juz:∀ {i:Nat} {f:RF} {k:Nat} {x:List PV},(Jro i f)[k]? = some x→∃ (p:RKT) (b:List YRow),f.list[k]? = some p∧f.enc.drop (offR f.list k)=p.2.enc p.1 ++ b∧x=[.int .i64 (i+offR f.list k:Nat),.int .i64 (i+offR f.list k+(p.2.enc p.1).length:Nat)]
 | i,.nil,k,x,h=>by simp [Jro] at h
 | i,.cons nm t r,0,x,h=>by
  simp only [Jro,List.getElem?_cons_zero,Option.some.injEq] at h;exact ⟨(nm,t),r.enc,rfl,by rw [RF.list,offR,List.drop_zero,Jqf],by rw [← h];rfl⟩
 | i,.cons nm t r,k+1,x,h=>by
  simp only [Jro,List.getElem?_cons_succ] at h;obtain ⟨p,b,h1,h2,h3⟩:=Juz h;refine ⟨p,b,h1,?_,?_⟩
  ·rw [RF.list,offR,Jqf,← List.drop_drop,List.drop_left,h2]
  ·rw [h3,RF.list,offR];simp only [Nat.add_assoc]
theorem J0e {name:List UInt8}:∀ {l:List RKT} {k:Nat} {p:RKT},l[k]? = some p→p.1=name→(∀ q∈l.take k,q.1≠name)→Jsj name l=some (offR l k,p.2)
 | [],k,p,h,_,_=>by simp at h
 | a :: l,0,p,h,hn,_=>by
  simp only [List.getElem?_cons_zero,Option.some.injEq] at h;subst h;rw [Jsj,if_pos hn];rfl
 | a :: l,k+1,p,h,hn,hno=>by
  simp only [List.getElem?_cons_succ] at h;rw [List.take_succ_cons] at hno;rw [Jsj,if_neg (hno a List.mem_cons_self),J0e h hn fun q hq=>hno q (List.mem_cons_of_mem _ hq),offR];simp only [Option.map_some,Nat.add_comm]
theorem Jyl {name:List UInt8}:∀ {l:List RKT},(∀ q∈l,q.1≠name)→Jsj name l=none
 | [],_=>rfl
 | a :: l,h=>by
  rw [Jsj,if_neg (h a List.mem_cons_self),Jyl fun q hq=>h q (List.mem_cons_of_mem _ hq)];rfl
def Jr3 (t:RT) (p:List Step):Option Nat:=match Juh t p with
 | some u=>if u.kind=1 then Jss t p else none
 | none=>none
def J0x (o:Option Nat):L:=match o with
 | some o=>.tup [.int .i64 o,.bool true]
 | none=>.tup [.int .i64 0,.bool false]
theorem J5n {t:RT} (h:t.kind=1):Jr3 t []=some 0:=by
 unfold Jr3;rw [Jwy];simp only [if_pos h];cases t;rfl
theorem J5t {t:RT} (h:¬ t.kind=1):Jr3 t []=none:=by
 unfold Jr3;rw [Jwy];simp only [if_neg h]
theorem J2p {t:RT} {x:Step} {p:List Step} (h:¬ (t.kind=2∧x.part=false)):Jr3 t (x :: p)=none:=by
 unfold Jr3;rw [Jub,if_neg h]
theorem J5x {k:Int} {s:List UInt8} {n:Int} {c:Node} {kids:RF} {x:Step} {p:List Step} (h:Jsj x.name kids.list=none):Jr3 (.mk k s n c kids) (x :: p)=none:=by
 have h1:=Jt6 (name:=x.name) (f:=kids);rw [h] at h1;simp only at h1;unfold Jr3;rw [Jub];simp only [RT.kids,h1,Option.bind_none,ite_self]
theorem J5o {k:Int} {s:List UInt8} {n:Int} {c:Node} {kids:RF} {x:Step} {p:List Step} {o:Nat} {u:RT} (hk:k=2) (hp:x.part=false) (h:Jsj x.name kids.list=some (o,u)):Jr3 (.mk k s n c kids) (x :: p)=(Jr3 u p).map fun z=>1+o+z:=by
 have h1:=Jt6 (name:=x.name) (f:=kids);rw [h] at h1;simp only at h1;unfold Jr3;rw [Jub,Jss,if_pos ⟨hk,hp⟩,if_pos ⟨hk,hp⟩];simp only [RT.kids,h1.1,h,Option.bind_some];cases Juh u p with
 | none=>rfl
 | some w=>simp only;split <;> rfl
theorem J4q {t:RT} {p:List Step}:match Jr3 t p with
  | some _=>Jwc t p
  | none=>¬ Jwc t p:=by
 unfold Jr3 Jwc;cases hl:Juh t p with
 | none=>simp
 | some u =>
  by_cases hk:u.kind=1
  ·have:=Jud (t:=t) (p:=p) (nm:=[]);simp only [if_pos hk];cases ho:Jss t p with
   | none=>rw [ho] at this;simp only at this;rw [hl] at this;cases this
   | some o=>exact ⟨u,rfl,hk⟩
  ·simp only [if_neg hk];rintro ⟨w,hw,h⟩;cases hw;exact hk h
theorem J8e {t:RT} {p:List Step} {o:Nat} {nm:List UInt8} (h:Jr3 t p=some o):o<(t.enc nm).length:=by
 have hsp:=Jud (t:=t) (p:=p) (nm:=nm);unfold Jr3 at h;cases hl:Juh t p with
 | none=>rw [hl] at h;cases h
 | some u =>
  rw [hl] at h;simp only at h;split at h
  ·rw [h] at hsp;obtain ⟨u,nm',b,_,h2⟩:=hsp;have hp:=Jr1 u nm';have:=congrArg List.length h2;rw [List.length_drop,List.length_append] at this;omega
  ·cases h
theorem J1o:∀ (p:List Step) (t:RT) (nm:List UInt8),(t.enc nm).length≤1000000→p.length≤1000000→Det cx 15 [.p (.sl (rowL (t.enc nm))),.p (.sl (Bb p))] [] (J0x (Jr3 t p)) []
 | [],.mk k s n c kids,nm,hv,hp=>by
  have c0:(((Bb []).length:Int)=0)=True:=eq_true rfl;have hg0:=Jrr (v:=(RT.mk k s n c kids).enc nm) (i:=0) (n:=⟨k,kids.len,nm,s,n,c⟩) (b:=kids.enc) (by rw [Jqi];rfl);rw [Jrd] at hg0;generalize rowL ((RT.mk k s n c kids).enc nm)=rows at *
  by_cases hk:k=1
  ·have e1:=eq_true hk;rw [J5n (t:=.mk k s n c kids) hk];(refine bgo Tryz.func15 ?_;simp only [go_sem,simprocAttr,c0]);refine Je9 (.node 0 (.node 1 (.node 2 (.node 3 (.node 4 (.node 5 (.node 6 .leaf .nil) .nil) (.node 5 (.node 4 (.node 6 .leaf .nil) .nil) .nil)) (.node 5 (.node 3 (.node 4 (.node 6 .leaf .nil) .nil) .nil) .nil)) (.node 5 (.node 2 (.node 3 (.node 4 (.node 6 .leaf .nil) .nil) .nil) .nil) .nil)) (.node 5 (.node 1 (.node 2 (.node 3 (.node 4 (.node 6 .leaf .nil) .nil) .nil) .nil) .nil) .nil)) (.node 5 (.node 0 (.node 1 (.node 2 (.node 3 (.node 4 (.node 6 .leaf .nil) .nil) .nil) .nil) .nil) .nil) .nil)) ⟨Ba 58 [(4,.ptr 4 0 0),(5,.ptr 5 0 0)],[(5,.var 4 [.p (.bool (k == 1))]),(4,.var 3 [.p (.int .i64 0)])]⟩ hm krf ?_ ?_
   ·simp (maxSteps:=100000000) only [go_sem,simprocAttr,c0,hg0,e1];(repeat' apply And.intro)
    all_goals first
     | exact trivial
     | (show St.Le _ _;exact Jqc)
   ·simp only [go_sem,simprocAttr];rw [show (k == 1)=true by simp [hk]];rfl
  ·have e1:=eq_false hk;rw [J5t (t:=.mk k s n c kids) hk];(refine bgo Tryz.func15 ?_;simp only [go_sem,simprocAttr,c0]);refine Je9 (.node 0 (.node 1 (.node 2 (.node 3 (.node 4 (.node 5 (.node 6 .leaf .nil) .nil) (.node 5 (.node 4 (.node 6 .leaf .nil) .nil) .nil)) (.node 5 (.node 3 (.node 4 (.node 6 .leaf .nil) .nil) .nil) .nil)) (.node 5 (.node 2 (.node 3 (.node 4 (.node 6 .leaf .nil) .nil) .nil) .nil) .nil)) (.node 5 (.node 1 (.node 2 (.node 3 (.node 4 (.node 6 .leaf .nil) .nil) .nil) .nil) .nil) .nil)) (.node 5 (.node 0 (.node 1 (.node 2 (.node 3 (.node 4 (.node 6 .leaf .nil) .nil) .nil) .nil) .nil) .nil) .nil)) ⟨Ba 58 [(4,.ptr 4 0 0),(5,.ptr 5 0 0)],[(5,.var 4 [.p (.bool (k == 1))]),(4,.var 3 [.p (.int .i64 0)])]⟩ hm krf ?_ ?_
   ·simp (maxSteps:=100000000) only [go_sem,simprocAttr,c0,hg0,e1];(repeat' apply And.intro)
    all_goals first
     | exact trivial
     | (show St.Le _ _;exact Jqc)
   ·simp only [go_sem,simprocAttr];rw [show (k == 1)=false by simp [hk]];rfl
 | x :: p,.mk k s n c kids,nm,hv,hp=>by
  have ih:=fun (t:RT) (nm:List UInt8) (h:(t.enc nm).length≤1000000)=>J1o p t nm h (by simp at hp;omega)
  have hg0:=Jrr (v:=(RT.mk k s n c kids).enc nm) (i:=0) (n:=⟨k,kids.len,nm,s,n,c⟩) (b:=kids.enc) (by rw [Jqi];rfl);rw [Jrd] at hg0;have hkn:kids.enc.length≤999999:=by rw [Jqi,List.length_cons] at hv;omega
  have hp0:(Bb (x :: p))[0]? = some [.bool x.part,.str x.name,.int .i64 x.n]:=rfl;have hpl:(Bb (x :: p)).length=p.length+1:=by simp [Bb]
  have c0:(((p.length+1:Nat):Int)=0)=False:=eq_false omg;have hsl:((Bb (x :: p)).drop 1).take (p.length+1 - 1)=Bb p:=by
   rw [show Bb (x :: p)=x.cells :: Bb p from rfl,List.drop_succ_cons,List.drop_zero,Nat.add_sub_cancel,List.take_of_length_le (by simp [Bb])]
  have hel3:∀ q∈Bb (x :: p),q.length=3:=by
   intro q hq;obtain ⟨y,_,rfl⟩:=List.mem_map.1 hq;rfl
  by_cases hk:k=2
  case neg =>
   have e2:=eq_false hk;rw [J2p (t:=.mk k s n c kids) (fun h=>hk h.1)];generalize rowL ((RT.mk k s n c kids).enc nm)=rows at *
   (refine bgo Tryz.func15 ?_;simp only [go_sem,simprocAttr,hg0,hpl,c0,e2,not_false_eq_true])
   all_goals rfl
  have e2:=eq_true hk;cases hpt:x.part with
  | true =>
   rw [J2p (t:=.mk k s n c kids) (fun h=>by rw [hpt] at h;exact absurd h.2 sm)];rw [hpt] at hp0;generalize rowL ((RT.mk k s n c kids).enc nm)=rows at *
   (refine bgo Tryz.func15 ?_;simp only [go_sem,simprocAttr,hg0,hpl,hp0,c0,e2,not_true_eq_false])
   all_goals rfl
  | false =>
   rw [hpt] at hp0;have hE:=J14 ((RT.mk k s n c kids).enc nm);have hIt:=J11 nm k s n c kids hkn;rw [if_neg omg] at hIt;have hd1:((RT.mk k s n c kids).enc nm).drop 1=kids.enc:=by rw [Jqi];rfl
   have hfound:∀ o u,Jsj x.name kids.list=some (o,u)→Jr3 (.mk k s n c kids) (x :: p)=(Jr3 u p).map fun z=>1+o+z:=fun o u h=>J5o hk hpt h
   have hnone:Jsj x.name kids.list=none→Jr3 (.mk k s n c kids) (x :: p)=none:=fun h=>J5x h
   generalize Jr3 (.mk k s n c kids) (x :: p)=oo at hfound hnone ⊢;generalize hvv:(RT.mk k s n c kids).enc nm=v at *
   (refine bgo Tryz.func15 ?_;simp only [go_sem,simprocAttr,hg0,hpl,hp0,c0,e2,not_true_eq_false]);(repeat' (first | ((refine Jqa (hE) ?_);simp only [go_sem,simprocAttr]) | fail));refine Jqn (show St.Le _ ⟨Ba 58 [(2,.ptr 2 0 0),(3,.ptr 3 0 0),(4,.ptr 4 0 0),(5,.ptr 5 0 0),(30,.fn 40 [30])],[(30,.var 29 [.p (.sl (rowL v))]),(5,.var 4 [.p (.bool false)]),(4,.var 3 [.p (.int .i64 0)]),(3,.var 39 [.p (.sl (Bb (x :: p)))]),(2,.var 29 [.p (.sl (rowL v))])]⟩ from Jqc) ?_;(refine SWP.range (Jro 1 kids) 58 [] sm _ _ _ _ _ (fun i R=>R=[(1000,.var 4 [.p (.bool false)]),(1001,.var 3 [.p (.int .i64 0)]),(1002,.var 39 [.p (.sl (Bb (x :: p)))]),(1003,.var 29 [.p (.sl (rowL v))])]∧∀ q∈kids.list.take i,q.1≠x.name) (fun y R=>y=.ret∧R=[(1000,.var 4 [.p (.bool oo.isSome)]),(1001,.var 3 [.p (.int .i64 ((oo.getD 0:Nat):Int))])]) (by rfl) (by rfl) (by rfl) (hIt) (by simp only [go_sem,simprocAttr] <;> rfl) (by first | rfl | simp [Cg]) sm ?hps (by simp only [go_sem,simprocAttr] <;> rfl) (by simp only [go_sem,simprocAttr] <;> rfl) (by simp only [go_sem,simprocAttr] <;> rfl) ?h0 ?hkI ?hkS ?hSn ?round ?done ?stop)
   case hps=>exact fun x hx=>Ju7 hx
   case h0=>exact ⟨rfl,by simp⟩
   case hkI=>rintro k R ⟨rfl,_⟩;simp [Hg,findKey]
   case hkS=>rintro y R ⟨_,rfl⟩;simp [Hg,findKey]
   case hSn=>rintro R ⟨h,_⟩;cases h
   case stop =>
    rintro y R ⟨rfl,rfl⟩;simp only [go_sem,simprocAttr];refine ⟨_,St.Le.refl _,?_⟩;simp only [go_sem,simprocAttr];cases oo <;> rfl
   case done =>
    rintro R ⟨rfl,hno⟩;rw [Js2,List.take_of_length_le (by rw [Jrb];exact Nat.le_refl _)] at hno;rw [hnone (Jyl hno)];simp only [go_sem,simprocAttr];refine ⟨_,St.Le.refl _,?_⟩;simp only [go_sem,simprocAttr];rfl
   case round =>
    rintro i y R l hx ⟨rfl,hno⟩;obtain ⟨q,b,hq,hd,rfl⟩:=Juz hx;obtain ⟨nm',⟨k',s',n',c',kids'⟩⟩:=q;simp only at hd;have hdv:v.drop (1+offR kids.list i)=(RT.mk k' s' n' c' kids').enc nm' ++ b:=by rw [← List.drop_drop,hd1,hd]
    have hs:=Jve hdv;have hel:((RT.mk k' s' n' c' kids').enc nm').length=kids'.enc.length+1:=by rw [Jqi];rfl
    have hgq:(rowL v)[1+offR kids.list i]? = some [.int .i64 k',.int .i64 kids'.len,.str nm',.str s',.int .i64 n',.int .i64 c'.kind,.int .i64 c'.many,.str c'.name,.str c'.s,.bool c'.neg,.int .i64 c'.e]:=by
     rw [Jqi,List.cons_append] at hdv;have:=Jrr hdv
     rwa [Jrd] at this
    have hlen:=congrArg List.length hdv;rw [List.length_append,List.length_drop] at hlen;have hsl2:((rowL v).drop (1+offR kids.list i)).take (1+offR kids.list i+((RT.mk k' s' n' c' kids').enc nm').length - (1+offR kids.list i))=rowL ((RT.mk k' s' n' c' kids').enc nm'):=by rw [Nat.add_sub_cancel_left,hs]
    by_cases hn:nm'=x.name
    ·have e:=eq_true hn;have hL:=ih (.mk k' s' n' c' kids') nm' omg;have hoo:=hfound _ _ (J0e hq hn hno);simp only at hoo;cases hlf:Jr3 (.mk k' s' n' c' kids') p with
     | some z =>
      rw [hlf] at hL hoo;simp only [J0x,Option.map_some] at hL hoo;subst hoo;have hz:=J8e (nm:=nm') hlf;have w1:IntKind.i64.wrap (((1+offR kids.list i:Nat):Int)+(z:Int))=((1+offR kids.list i+z:Nat):Int):=by rw [Aa omg omg];omega
      simp only [go_sem,simprocAttr];(refine lws ?_;simp only [go_sem,simprocAttr]);(repeat' (first | (refine And.intro hel3 ?_)|(refine And.intro (Jre _) ?_)|(refine Jqd ?_)|((first | (refine Jql ?_)|(refine Jqe (hL) ?_));simp only [go_sem,simprocAttr,hpl,hp0,hgq,e,hsl2,Jqb,w1]) | fail));refine ⟨_,rfl,?_⟩;simp only [Option.isSome_some,Option.getD_some];exact (Jqp (by simp only [Ar]) (by simp (disch:=omega) [Az,A3,Aw,Am,Af,Ai,Au,Aa]) (by simp [Ay]))
     | none =>
      rw [hlf] at hL hoo;simp only [J0x,Option.map_none] at hL hoo;subst hoo;simp only [go_sem,simprocAttr];(refine lws ?_;simp only [go_sem,simprocAttr]);(repeat' (first | (refine And.intro hel3 ?_)|(refine And.intro (Jre _) ?_)|(refine Jqd ?_)|((first | (refine Jql ?_)|(refine Jqe (hL) ?_));simp only [go_sem,simprocAttr,hpl,hp0,hgq,e,hsl2,Jqb]) | fail));refine ⟨_,rfl,?_⟩;simp only [Option.isSome_none,Option.getD_none];exact (Jqp (by simp only [Ar]) (by simp (disch:=omega) [Az,A3,Aw,Am,Af,Ai,Au,Aa]) (by simp [Ay]))
    ·have e:=eq_false hn;simp only [go_sem,simprocAttr];(refine lws ?_;simp only [go_sem,simprocAttr]);(repeat' (first | ((refine Jql ?_);simp only [go_sem,simprocAttr,hp0,hgq,e]) | fail));refine ⟨_,⟨rfl,fun r hr=>?_⟩,(Jqp (by simp only [Ar]) (by simp (disch:=omega) [Az,A3,Aw,Am,Af,Ai,Au,Aa]) (by simp [Ay]))⟩;rw [List.take_add_one,hq] at hr;rcases List.mem_append.1 hr with hr | hr
     ·exact hno r hr
     ·simp at hr;subst hr;exact hn
theorem J7z {v:List YRow} {i:Nat} {nm:List UInt8} {t:RT} {q:Nat} (h:v.drop i=t.enc nm ++ v.drop q) (hq:q=i+(t.enc nm).length):((rowL v).drop i).take (q - i)=rowL (t.enc nm):=by
 rw [show q - i=(t.enc nm).length by omega];exact Jve h
theorem J2j {k:Int} {s:List UInt8} {nm:List UInt8} {t:RT} (h:k=7∨k=8):Js3 k s (RF.cons nm t .nil).list ↔ Jwc t (Je s).1:=by
 unfold Js3;constructor
 ·intro h1;exact h1 h (nm,t) rfl
 ·intro h1 _ p hp;simp only [RF.list,List.head?_cons,Option.some.injEq] at hp;subst hp;exact h1
theorem J63 {k:Int} {s:List UInt8} {l:List RKT} (h:¬ (k=7∨k=8)):Js3 k s l:=fun h1=>absurd h1 h
theorem J7k {k:Int} {s:List UInt8} {n:Int} {c:Node} {m:Int} (h:Jqu k s n c m) (hk:k=7∨k=8):m=1:=by
 unfold Jqu at h;rw [if_neg omg,if_neg omg,if_neg omg,if_neg omg,if_neg omg,if_neg omg,if_pos hk] at h;exact h.1
theorem J8t (v:List YRow) (hv:v.length≤10000) (hf:∀ n∈v,RowFit n):∀ (m i:Nat),v.length≤i+m→Det cx 34 [.p (.sl (rowL v)),.p (.int .i64 i)] [] (Ju8 v i) []:=by
 intro m
 induction m using Nat.strongRecOn with
 | _ m ih =>
 intro i hmi;by_cases hi:v.length≤i
 ·have c1:((v.length:Int)≤(i:Int))=True:=eq_true omg;rw [Jqt (fun j h=>by obtain ⟨y,hy,_⟩:=Jt4 h;have:=(List.getElem?_eq_some_iff.1 hy).1;omega)];(refine bgo Tryz.func34 ?_;simp only [go_sem,simprocAttr,Jqb,c1,decide_true])
  skip
 obtain ⟨⟨k,mm,nm,s,n,c⟩,hy⟩:∃ y,v[i]? = some y:=⟨_,List.getElem?_eq_getElem omg⟩
 have hg:=Jse hy;simp only at hg;have hfn:=hf _ (List.mem_of_getElem? hy);have hpl:=J4p k mm nm s n c hfn.s hfn.c;have hsl:=hfn.s;simp only at hsl;have c1:((v.length:Int)≤(i:Int))=False:=eq_false omg;by_cases h1:Jqu k s n c mm
 case neg =>
  rw [decide_eq_false h1] at hpl;rw [Jqt (fun j h=>by
   obtain ⟨y,hy',h2,_⟩:=Jt4 h;rw [hy] at hy';cases hy';exact h1 h2)]
  (refine bgo Tryz.func34 ?_;simp only [go_sem,simprocAttr,Jqb,c1,hg,decide_false]);(repeat' (first | ((refine Jqa (hpl) ?_);simp only [go_sem,simprocAttr,Bool.not_false]) | fail))
 rw [decide_eq_true h1] at hpl;by_cases h2:mm≤v.length
 case neg =>
  have c2:((v.length:Int)<mm)=True:=eq_true omg;rw [Jqt (fun j h=>by
   obtain ⟨y,hy',_,h3⟩:=Jt4 h;rw [hy] at hy';cases hy';exact h2 h3)]
  (refine bgo Tryz.func34 ?_;simp only [go_sem,simprocAttr,Jqb,c1,hg,decide_false]);(repeat' (first | ((refine Jqa (hpl) ?_);simp only [go_sem,simprocAttr,Jqb,c2,hg,decide_true,Bool.not_true]) | fail))
 have c2:((v.length:Int)<mm)=False:=eq_false omg;have w0:=wj1 (i:=i) omg;have hm0:=J4c h1;(refine bgo Tryz.func34 ?_;simp only [go_sem,simprocAttr,Jqb,c1,hg,decide_false]);(repeat' (first | ((refine Jqa (hpl) ?_);simp only [go_sem,simprocAttr,Jqb,c2,hg,w0,decide_false,Bool.not_true]) | fail));refine SWP.loop (fun x:Nat×RF=>⟨Ba 147 [(0,.p (.sl (rowL v))),(1,.p (.int .i64 x.1)),(6,.ptr 6 0 0),(7,.p (.int .i64 i)),(46,.p (.int .i64 mm)),(47,.p (.int .i64 x.2.len))],[(6,.var 25 [.p (.int .i64 k),.p (.int .i64 mm),.p (.str nm),.p (.str s),.p (.int .i64 n),.p (.int .i64 c.kind),.p (.int .i64 c.many),.p (.str c.name),.p (.str c.s),.p (.bool c.neg),.p (.int .i64 c.e)])]⟩) (fun x=>(x.2.len:Int)≤mm∧v.drop (i+1)=x.2.enc ++ v.drop x.1∧x.1=i+1+x.2.enc.length∧x.1≤v.length∧Jra k x.2.list∧okRF x.2∧(k=2→(x.2.len:Int)<mm→∀ p,x.2.list.getLast? = some p→∃ y,v[x.1]? = some y∧Op.bytesLess p.1 y.name=true)) (fun x=>v.length+1 - x.1) (i+1,.nil) (by simp only [RF.len];exact Jqc) ⟨by simpa [RF.len] using hm0,by simp [Jq5],by simp [Jq5],by simp only;omega,by simp [RF.list,Juu],Jsc,by simp [RF.list]⟩ ?_;rintro ⟨q,A⟩ ⟨a1,a2,a3,a4,a5,a6,a7⟩;simp only at a1 a2 a3 a4 a5 a6 a7 ⊢;by_cases hk:(A.len:Int)<mm
 case neg =>
  have c3:((A.len:Int)<mm)=False:=eq_false hk;by_cases h78:k=7∨k=8
  ·have hmm:=J7k h1 h78;obtain ⟨nm',t,rfl⟩:∃ nm t,A=.cons nm t .nil:=by
    match A,(show (A.len:Int)=1 by omega) with
    | .nil,h=>simp [RF.len] at h
    | .cons nm t .nil,_=>exact ⟨nm,t,rfl⟩
    | .cons _ _ (.cons _ _ r),h=>simp only [RF.len] at h;omega
   rw [Jqf,Jq5,List.append_nil] at a2 a3;have hPO:=J02 s hsl;have hrl:=(Jwi s).1;have htl:(t.enc nm').length≤1000000:=by omega
   have hLf:=J1o (Je s).1 t nm' htl omg;have htk:=J7z a2 a3;have hd:=J4q (t:=t) (p:=(Je s).1);have w1:=wj1 (i:=i) omg;cases hlf:Jr3 t (Je s).1 with
   | some o =>
    rw [hlf] at hLf hd;simp only [J0x] at hLf hd;rw [Jr8 (Jye (A:=.cons nm' t .nil) hy h1 (by rw [Jqf,Jq5,List.append_nil];exact a2) (by rw [Jqf,Jq5,List.append_nil];exact a3) (by simp only;omega) a5 ((J2j h78).2 hd) a6)];rcases h78 with rfl | rfl
    ·(refine lws ?_;simp only [go_sem,simprocAttr,decide_false,c3]);(repeat' (first | (refine And.intro (Jre _) ?_)|(refine Jqd ?_)|((first | (refine Jqa (hPO) ?_)|(refine Jqa (hLf) ?_));simp only [go_sem,simprocAttr,Jqb,w0,Bool.not_true,htk,Jqb]) | fail))
    ·(refine lws ?_;simp only [go_sem,simprocAttr,decide_false,c3]);(repeat' (first | (refine And.intro (Jre _) ?_)|(refine Jqd ?_)|((first | (refine Jqa (hPO) ?_)|(refine Jqa (hLf) ?_));simp only [go_sem,simprocAttr,Jqb,w0,Bool.not_true,htk,Jqb]) | fail))
   | none =>
    rw [hlf] at hLf hd;simp only [J0x] at hLf hd;rw [Jqt (fun j h=>hd ((J2j h78).1 (J33 (A:=.cons nm' t .nil) h hy (by rw [Jqf,Jq5,List.append_nil];exact a2) (by rw [Jqf,Jq5,List.append_nil];exact a3) (by simp only;omega))))];rcases h78 with rfl | rfl
    ·(refine lws ?_;simp only [go_sem,simprocAttr,decide_false,c3]);(repeat' (first | (refine And.intro (Jre _) ?_)|(refine Jqd ?_)|((first | (refine Jqa (hPO) ?_)|(refine Jqa (hLf) ?_));simp only [go_sem,simprocAttr,Jqb,w0,htk,Jqb]) | fail))
    ·(refine lws ?_;simp only [go_sem,simprocAttr,decide_false,c3]);(repeat' (first | (refine And.intro (Jre _) ?_)|(refine Jqd ?_)|((first | (refine Jqa (hPO) ?_)|(refine Jqa (hLf) ?_));simp only [go_sem,simprocAttr,Jqb,w0,htk,Jqb]) | fail))
  ·rw [Jr8 (Jye hy h1 a2 a3 (by simp only;omega) a5 (J63 h78) a6)];have e7:(k=7)=False:=eq_false omg;have e8:(k=8)=False:=eq_false omg;(refine lws ?_;simp only [go_sem,simprocAttr,decide_false,c3,e7,e8])
   skip
 have c3:((A.len:Int)<mm)=True:=eq_true hk;by_cases hq:v.length≤q
 ·have c4:((v.length:Int)≤(q:Int))=True:=eq_true omg;rw [Jqt (fun j h=>by have:=Jvn h hy a2 a3 hk;omega)];(refine lws ?_;simp only [go_sem,simprocAttr,decide_true,c3,decide_true]);(repeat' (first | ((refine Jql ?_);simp only [go_sem,simprocAttr,Jqb,decide_true,Jqb,c4,decide_true]) | fail))
 have c4:((v.length:Int)≤(q:Int))=False:=eq_false omg;obtain ⟨⟨k',mm',nm',s',n',c'⟩,hx⟩:∃ x,v[q]? = some x:=⟨_,List.getElem?_eq_getElem omg⟩
 have hgx:=Jse hx;simp only at hgx;have hfx:=hf _ (List.mem_of_getElem? hx);have hU:=Fi nm' (by have:=hfx.name;simp only at this;omega);have hrec:=ih (v.length - q) omg q omg;have hno:¬ tnx k A.list nm' k'→Ju8 v i=.tup [.int .i64 0,.bool false]:=fun hn=>Jqt fun j h=>hn (Jsq h hy hx a2 a3 hk).1
 have w1:=wj1 (i:=A.len) omg;by_cases hkd:(k'=9 ↔ k=1)
 case neg =>
  rw [hno fun h=>hkd h.1];by_cases h9:k'=9
  ·have e9:=eq_true h9;have b9:(k' == 9)=true:=by rw [beq_iff_eq];exact h9
   have e1:(k=1)=False:=eq_false fun h=>hkd ⟨fun _=>h,fun _=>h9⟩
   have b1:(k == 1)=false:=by rw [beq_eq_false_iff_ne];exact fun h=>by rw [h] at e1;simp at e1
   (refine lws ?_;simp only [go_sem,simprocAttr,decide_true,c3,decide_true]);(repeat' (first | ((refine Jql ?_);simp only [go_sem,simprocAttr,Jqb,decide_false,Jqb,c4,hgx,b9,b1,decide_false,Bool.bne_false]) | fail))
  ·have e9:=eq_false h9;have b9:(k' == 9)=false:=by rw [beq_eq_false_iff_ne];exact h9
   have e1:(k=1)=True:=eq_true (Classical.byContradiction fun h=>hkd ⟨fun h'=>absurd h' h9,fun h'=>absurd h' h⟩);have b1:(k == 1)=true:=by rw [beq_iff_eq];rw [e1];trivial
   (refine lws ?_;simp only [go_sem,simprocAttr,decide_true,c3,decide_true]);(repeat' (first | ((refine Jql ?_);simp only [go_sem,simprocAttr,Jqb,decide_false,Jqb,c4,hgx,b9,b1,decide_false,Bool.bne_true,Bool.not_false]) | fail))
 by_cases hk2:k=2
 ·have e2:=eq_true hk2;have b2:(k == 2)=true:=by rw [beq_iff_eq];exact hk2
  have h9:k'≠9:=fun h=>by have:=hkd.1 h;omega
  have e9:=eq_false h9;have b9:(k' == 9)=false:=by rw [beq_eq_false_iff_ne];exact h9
  have e1:(k=1)=False:=eq_false omg;have b1:(k == 1)=false:=by rw [beq_eq_false_iff_ne];omega
  cases hvl:valid nm' with
  | false =>
   rw [hvl] at hU;rw [hno fun h=>by have:=h.2.2.1 hk2;rw [hvl] at this;cases this];(refine lws ?_;simp only [go_sem,simprocAttr,decide_true,c3,e2,decide_true]);(repeat' (first | ((first | (refine Jql ?_)|(refine Jqa (hU) ?_));simp only [go_sem,simprocAttr,Jqb,decide_false,Jqb,c4,hgx,b9,b1,e2,decide_false,Bool.not_false,bne_self_eq_false]) | fail))
  | true =>
   rw [hvl] at hU;have hn:tnx k A.list nm' k':=⟨hkd,fun h=>absurd hk2 h,fun _=>hvl,fun _ p hp=>by
    obtain ⟨y,hy',hb⟩:=a7 hk2 hk p hp;rw [hx] at hy';cases hy';exact hb⟩
   by_cases hs:∃ j,Jrf v q j
   case neg =>
    rw [Jqt (v:=v) (i:=q) (fun j h=>hs ⟨j,h⟩)] at hrec;rw [Jqt (fun j h=>hs (Jsq h hy hx a2 a3 hk).2)];(refine lws ?_;simp only [go_sem,simprocAttr,decide_true,c3,e2,decide_true]);(repeat' (first | ((first | (refine Jql ?_)|(refine Jqa (hU) ?_)|(refine Jqa (hrec) ?_));simp only [go_sem,simprocAttr,Jqb,decide_false,Bool.not_true,Jqb,c4,hgx,b9,b1,e2,decide_false,Bool.not_true,Bool.not_false,bne_self_eq_false]) | fail))
   obtain ⟨j,hj⟩:=hs;rw [Jr8 hj] at hrec;have hjl:=Jvs hj;obtain ⟨B,r1,r2,r3,r4,r5,r6,t',r7⟩:=Jup (y:=⟨k,mm,nm,s,n,c⟩) hx a2 a3 a5 a6 hn hj;by_cases hmore:((A.len+1:Nat):Int)<mm
   case neg =>
    have c5:(((A.len+1:Nat):Int)<mm)=False:=eq_false hmore;(refine lws ?_;simp only [go_sem,simprocAttr,decide_true,c3,e2,decide_true]);(repeat' (first | ((first | (refine Jql ?_)|(refine Jqa (hU) ?_)|(refine Jqa (hrec) ?_));simp only [go_sem,simprocAttr,Jqb,decide_false,Bool.not_true,Jqb,c4,hgx,w1,b9,b1,e2,b2,decide_false,Bool.not_true,bne_self_eq_false,c5]) | fail));exact ⟨(j,B),⟨by simp only;omega,r2,r3,hjl.1,r5,r6,fun h=>by have h2:(B.len:Int)<mm:=h;omega⟩,by simp only;omega,by simp only;rw [r1];exact Jqc⟩
   have c5:(((A.len+1:Nat):Int)<mm)=True:=eq_true hmore;by_cases hjv:v.length≤j
   ·have c6:((v.length:Int)≤(j:Int))=True:=eq_true omg;rw [Jqt (fun j' h=>by have:=Jvn h hy r2 r3 (by simp only;omega);omega)];(refine lws ?_;simp only [go_sem,simprocAttr,decide_true,c3,e2,decide_true]);(repeat' (first | ((first | (refine Jql ?_)|(refine Jqa (hU) ?_)|(refine Jqa (hrec) ?_));simp only [go_sem,simprocAttr,Jqb,decide_false,decide_true,Bool.not_true,Jqb,c4,hgx,w1,b9,b1,e2,b2,decide_true,decide_false,Bool.not_true,bne_self_eq_false,c5,c6]) | fail))
   have c6:((v.length:Int)≤(j:Int))=False:=eq_false omg;obtain ⟨⟨k2,m2,nm2,s2,n2,d2⟩,hz⟩:∃ z,v[j]? = some z:=⟨_,List.getElem?_eq_getElem omg⟩
   have hgz:=Jse hz;simp only at hgz;cases hbl:Op.bytesLess nm' nm2 with
   | false =>
    rw [Jqt (fun j' h=>by
     have:=(Jsq h hy hz r2 r3 (by simp only;omega)).1.2.2.2 hk2 (nm',t') (by rw [r7];simp);simp only at this;rw [hbl] at this;cases this)]
    (refine lws ?_;simp only [go_sem,simprocAttr,decide_true,c3,e2,decide_true]);(repeat' (first | ((first | (refine Jql ?_)|(refine Jqa (hU) ?_)|(refine Jqa (hrec) ?_));simp only [go_sem,simprocAttr,Jqb,decide_false,decide_true,Bool.not_true,Jqb,c4,hgx,w1,b9,b1,e2,b2,J1y,decide_true,decide_false,Bool.not_true,Bool.not_false,bne_self_eq_false,c5,c6,hgz,hbl]) | fail))
   | true =>
    (refine lws ?_;simp only [go_sem,simprocAttr,decide_true,c3,e2,decide_true]);(repeat' (first | ((first | (refine Jql ?_)|(refine Jqa (hU) ?_)|(refine Jqa (hrec) ?_));simp only [go_sem,simprocAttr,Jqb,decide_false,decide_true,Bool.not_true,Jqb,c4,hgx,w1,b9,b1,e2,b2,J1y,decide_true,decide_false,Bool.not_true,bne_self_eq_false,c5,c6,hgz,hbl]) | fail));exact ⟨(j,B),⟨by simp only;omega,r2,r3,hjl.1,r5,r6,fun _ p hp=>⟨_,hz,by
      rw [r7] at hp;simp at hp;subst hp;exact hbl⟩⟩,by simp only;omega,by simp only;rw [r1];exact Jqc⟩
 have e2:=eq_false hk2;have b2:(k == 2)=false:=by rw [beq_eq_false_iff_ne];exact hk2
 by_cases hk1:k=1
 ·have e1:=eq_true hk1;have b1:(k == 1)=true:=by rw [beq_iff_eq];exact hk1
  have h9:k'=9:=hkd.2 hk1;have e9:=eq_true h9;have b9:(k' == 9)=true:=by rw [beq_iff_eq];exact h9
  by_cases hnm:nm'=[]
  case neg =>
   have en:=eq_false hnm;have el:(nm'.length=0)=False:=eq_false fun h=>hnm (List.eq_nil_of_length_eq_zero h)
   rw [hno fun h=>hnm (h.2.1 hk2)];(refine lws ?_;simp only [go_sem,simprocAttr,decide_true,c3,e2,decide_true]);(repeat' (first | ((refine Jql ?_);simp only [go_sem,simprocAttr,Jqb,decide_false,Bool.not_true,Jqb,c4,hgx,b9,b1,e2,decide_false,Bool.not_true,bne_self_eq_false,en]) | fail))
  have en:=eq_true hnm;have el:(nm'.length=0)=True:=eq_true (by rw [hnm];rfl);have hvl:valid nm'=true:=by rw [hnm];rfl
  rw [hvl] at hU;have hn:tnx k A.list nm' k':=⟨hkd,fun _=>hnm,fun h=>absurd h hk2,fun h=>absurd h hk2⟩
  by_cases hs:∃ j,Jrf v q j
  case neg =>
   rw [Jqt (v:=v) (i:=q) (fun j h=>hs ⟨j,h⟩)] at hrec;rw [Jqt (fun j h=>hs (Jsq h hy hx a2 a3 hk).2)];(refine lws ?_;simp only [go_sem,simprocAttr,decide_true,c3,e2,decide_true]);(repeat' (first | ((first | (refine Jql ?_)|(refine Jqa (hU) ?_)|(refine Jqa (hrec) ?_));simp only [go_sem,simprocAttr,Jqb,decide_false,Bool.not_true,Jqb,c4,hgx,b9,b1,e2,decide_false,Bool.not_true,Bool.not_false,bne_self_eq_false,en]) | fail))
  obtain ⟨j,hj⟩:=hs;rw [Jr8 hj] at hrec;have hjl:=Jvs hj;obtain ⟨B,r1,r2,r3,r4,r5,r6,t',r7⟩:=Jup (y:=⟨k,mm,nm,s,n,c⟩) hx a2 a3 a5 a6 hn hj;(refine lws ?_;simp only [go_sem,simprocAttr,decide_true,c3,e2,decide_true]);(repeat' (first | ((first | (refine Jql ?_)|(refine Jqa (hU) ?_)|(refine Jqa (hrec) ?_));simp only [go_sem,simprocAttr,Jqb,decide_false,Bool.not_true,Jqb,c4,hgx,w1,b9,b1,e2,b2,decide_false,Bool.not_true,bne_self_eq_false,en]) | fail));exact ⟨(j,B),⟨by simp only;omega,r2,r3,hjl.1,r5,r6⟩,by simp only;omega,by simp only;rw [r1];exact Jqc⟩
 ·have e1:=eq_false hk1;have b1:(k == 1)=false:=by rw [beq_eq_false_iff_ne];exact hk1
  have h9:k'≠9:=fun h=>hk1 (hkd.1 h)
  have e9:=eq_false h9;have b9:(k' == 9)=false:=by rw [beq_eq_false_iff_ne];exact h9
  by_cases hnm:nm'=[]
  case neg =>
   have en:=eq_false hnm;have el:(nm'.length=0)=False:=eq_false fun h=>hnm (List.eq_nil_of_length_eq_zero h)
   rw [hno fun h=>hnm (h.2.1 hk2)];(refine lws ?_;simp only [go_sem,simprocAttr,decide_true,c3,e2,decide_true]);(repeat' (first | ((refine Jql ?_);simp only [go_sem,simprocAttr,Jqb,decide_false,Bool.not_true,Jqb,c4,hgx,b9,b1,e2,decide_false,Bool.not_true,bne_self_eq_false,en]) | fail))
  have en:=eq_true hnm;have el:(nm'.length=0)=True:=eq_true (by rw [hnm];rfl);have hvl:valid nm'=true:=by rw [hnm];rfl
  rw [hvl] at hU;have hn:tnx k A.list nm' k':=⟨hkd,fun _=>hnm,fun h=>absurd h hk2,fun h=>absurd h hk2⟩
  by_cases hs:∃ j,Jrf v q j
  case neg =>
   rw [Jqt (v:=v) (i:=q) (fun j h=>hs ⟨j,h⟩)] at hrec;rw [Jqt (fun j h=>hs (Jsq h hy hx a2 a3 hk).2)];(refine lws ?_;simp only [go_sem,simprocAttr,decide_true,c3,e2,decide_true]);(repeat' (first | ((first | (refine Jql ?_)|(refine Jqa (hU) ?_)|(refine Jqa (hrec) ?_));simp only [go_sem,simprocAttr,Jqb,decide_false,Bool.not_true,Jqb,c4,hgx,b9,b1,e2,decide_false,Bool.not_true,Bool.not_false,bne_self_eq_false,en]) | fail))
  obtain ⟨j,hj⟩:=hs;rw [Jr8 hj] at hrec;have hjl:=Jvs hj;obtain ⟨B,r1,r2,r3,r4,r5,r6,t',r7⟩:=Jup (y:=⟨k,mm,nm,s,n,c⟩) hx a2 a3 a5 a6 hn hj;(refine lws ?_;simp only [go_sem,simprocAttr,decide_true,c3,e2,decide_true]);(repeat' (first | ((first | (refine Jql ?_)|(refine Jqa (hU) ?_)|(refine Jqa (hrec) ?_));simp only [go_sem,simprocAttr,Jqb,decide_false,Bool.not_true,Jqb,c4,hgx,w1,b9,b1,e2,b2,decide_false,Bool.not_true,bne_self_eq_false,en]) | fail));exact ⟨(j,B),⟨by simp only;omega,r2,r3,hjl.1,r5,r6⟩,by simp only;omega,by simp only;rw [r1];exact Jqc⟩
theorem J2v (v:List YRow) (hv:v.length≤10000) (hf:∀ n∈v,RowFit n):Det cx 18 [.p (.sl (rowL v))] [] (.p (.bool (Jrp v))) []:=by
 have hW:=J8t v hv hf v.length 0 omg;by_cases hs:∃ j,Jrf v 0 j
 ·obtain ⟨j,hj⟩:=hs;rw [Jr8 hj] at hW;obtain ⟨nm,⟨k,s,n,c,K⟩,r,h1,h2,h3⟩:=hj;rw [List.drop_zero] at h1;by_cases hl:j=v.length
  ·have c1:((j:Int)=(v.length:Int))=True:=eq_true omg;have hr:r=[]:=by
    have:=congrArg List.length h1;rw [List.length_append] at this;exact List.eq_nil_of_length_eq_zero omg
   rw [hr,List.append_nil] at h1;have hg0:(rowL v)[0]? = some [.int .i64 k,.int .i64 K.len,.str nm,.str s,.int .i64 n,.int .i64 c.kind,.int .i64 c.many,.str c.name,.str c.s,.bool c.neg,.int .i64 c.e]:=by rw [h1,Jqi];rfl
   by_cases hnm:nm=[]
   ·have c2:=eq_true hnm;subst hnm;by_cases hc:k=9
    ·have c3:=eq_true hc;have:false=Jrp v:=Jrl fun h=>by rw [h1] at h;exact (Jvu.1 h).2 hc
     rw [← this];(refine bgo Tryz.func18 ?_;simp only [go_sem,simprocAttr]);(repeat' (first | ((refine Jqa (hW) ?_);simp only [go_sem,simprocAttr,c1,c3,hg0,Jqb]) | fail))
    ·have c3:=eq_false hc;have:true=Jrp v:=(Jrz.2 (by rw [h1];exact Jvu.2 ⟨h2,hc⟩)).symm;rw [← this];(refine bgo Tryz.func18 ?_;simp only [go_sem,simprocAttr]);(repeat' (first | ((refine Jqa (hW) ?_);simp only [go_sem,simprocAttr,c1,c3,hg0,Jqb,not_false_eq_true]) | fail))
   ·have c2:=eq_false hnm;have:false=Jrp v:=Jrl fun h=>by
     obtain ⟨t,_,_,e⟩:=h;rw [h1] at e;exact hnm (J9b e).1
    rw [← this];(refine bgo Tryz.func18 ?_;simp only [go_sem,simprocAttr]);(repeat' (first | ((refine Jqa (hW) ?_);simp only [go_sem,simprocAttr,c1,c2,hg0,Jqb]) | fail))
  ·have c1:((j:Int)=(v.length:Int))=False:=eq_false omg;have:false=Jrp v:=Jrl fun h=>by
    obtain ⟨t,_,_,e⟩:=h;have:t.enc [] ++ []=(RT.mk k s n c K).enc nm ++ r:=by rw [List.append_nil,← e,h1]
    obtain ⟨_,_,h4⟩:=J0o this;rw [← h4,List.append_nil] at h1;rw [h1] at hl;omega
   rw [← this];(refine bgo Tryz.func18 ?_;simp only [go_sem,simprocAttr]);(repeat' (first | ((refine Jqa (hW) ?_);simp only [go_sem,simprocAttr,c1,Jqb]) | fail))
 ·rw [Jqt fun j h=>hs ⟨j,h⟩] at hW;have:false=Jrp v:=Jrl fun h=>by
   obtain ⟨t,h1,_,e⟩:=h;exact hs ⟨_,[],t,[],by rw [List.append_nil,List.drop_zero,e],h1,rfl⟩
  rw [← this];(refine bgo Tryz.func18 ?_;simp only [go_sem,simprocAttr]);(repeat' (first | ((refine Jqa (hW) ?_);simp only [go_sem,simprocAttr]) | fail))
theorem J5y (v:List YRow) (i m:Nat):((rowL v).drop (i+1)).take (i+1+m - (i+1))=rowL ((v.drop (i+1)).take m):=by
 rw [Nat.add_sub_cancel_left];simp [rowL,List.map_take,List.map_drop]
theorem J4i (v:List YRow) (i m:Nat) (r:YRow) (hr:v[i]? = some r) (hrm:r.many=(m:Int)) (hb:i+m<v.length) (hv:v.length≤999999):Det cx 33 [.p (.sl (rowL v)),.p (.int .i64 i)] [] (.p (.sl (Jq8 (Jq0 v i m)))) []:=by
 have hg0:=Jse hr;rw [hrm] at hg0;have hal:=Jun hb;have w0:IntKind.i64.wrap ((i:Int)+1)=((i+1:Nat):Int):=by rw [Aa omg omg];omega
 have w1:IntKind.i64.wrap (((i+1:Nat):Int)+(m:Int))=((i+1+m:Nat):Int):=by rw [Aa omg omg];omega
 have w2:(((i+1+m:Nat):Int)).toNat=i+1+m:=Int.toNat_natCast _;have hsl:=J5y v i m;have hsn:((v.drop (i+1)).take m).length=m:=by simp;omega
 (refine bgo Tryz.func33 ?_;simp only [go_sem,simprocAttr,hg0,hsl,Jqb,w0,w1,w2,hsn]);(repeat' (first | (refine And.intro (Jre _) ?_)|(refine Jqd ?_) | fail));refine SWP.loop (fun j:Nat=>if j=0 then ⟨Ba 35 [(5,.p .snil),(19,.p (.sl (rowL ((v.drop (i+1)).take m)))),(20,.p (.int .i64 m)),(21,.p (.int .i64 0))],[]⟩ else ⟨Ba 35 [(5,.own 32 0 j),(19,.p (.sl (rowL ((v.drop (i+1)).take m)))),(20,.p (.int .i64 m)),(21,.p (.int .i64 j))],[(32,.row 55 7 (Jq8 ((Jq0 v i m).take j)))]⟩) (fun j=>j≤m) (fun j=>m - j) 0 (by rw [if_pos rfl];exact Jqc) (Nat.zero_le _) ?_;rintro j hj;by_cases hlt:¬ j<m
 ·have hi2:j=m:=by omega
  subst hi2;by_cases hz:j=0
  ·rw [if_pos hz];have hk0:Jq0 v i j=[]:=List.eq_nil_of_length_eq_zero omg;rw [hk0,hz];refine Jqn (show St.Le _ ⟨Ba 35 [(5,.p (.sl [])),(20,.p (.int .i64 0)),(21,.p (.int .i64 0))],[]⟩ from Jqc) ?_;(refine lws ?_;simp only [go_sem,simprocAttr]);rfl
  ·rw [if_neg hz];have c1:((j:Int)<(j:Int))=False:=eq_false omg;have hpl:(j≤(Jq0 v i j).length)=True:=eq_true omg;have ht1:(Jq0 v i j).take j=Jq0 v i j:=List.take_of_length_le omg;have ht2:(Jq8 (Jq0 v i j)).take j=Jq8 (Jq0 v i j):=List.take_of_length_le (by rw [Jr7];omega);(refine lws ?_;simp only [go_sem,simprocAttr,c1,hpl,ht1,ht2,Jr7])
   skip
 ·have hlt:=Decidable.not_not.1 hlt;obtain ⟨q,hq⟩:∃ q,v[i+1+j]? = some q:=⟨_,List.getElem?_eq_getElem omg⟩
  have hgi:(rowL ((v.drop (i+1)).take m))[j]? = _:=Jse (v:=(v.drop (i+1)).take m) (by rw [List.getElem?_take,if_pos hlt,List.getElem?_drop,hq]);have hga:=Jw8 hq hlt;have htk:=Jxv hga;have hpl:(Jq8 ((Jq0 v i m).take j)).length=j:=by rw [Jr7,List.length_take];omega
  have c1:((j:Int)<(m:Int))=True:=eq_true omg;by_cases hz:j=0
  ·subst hz;rw [if_pos rfl];have c2:((0:Int)<(m:Int))=True:=eq_true omg;have hgi':(rowL ((v.drop (i+1)).take m))[0]? = _:=hgi;have w0':IntKind.i64.wrap 1=1:=by decide
   (refine lws ?_;simp only [go_sem,simprocAttr,c2,hgi',w0']);refine ⟨by simp,1,by omega,by omega,?_⟩;rw [htk,if_neg omg,show Jq8 (List.take 0 (Jq0 v i m))=[] from rfl,List.nil_append];exact Jqc
  ·rw [if_neg hz];(refine lws ?_;simp only [go_sem,simprocAttr,c1,hgi,hpl,wj1 (i:=j) omg]);refine ⟨by simp,by omega,by omega,j+1,by omega,by omega,?_⟩;rw [htk,if_neg omg];exact Jqc
theorem J51 (v:List YRow) (hv:v.length≤10000) (hf:∀ n∈v,RowFit n) (hs:∀ n∈v,n.c.s.length≤500):Det cx 17 [.p (.sl (rowL v))] [] (.p (.bool (Jt3 v))) []:=by
 have hR:=J2v v hv hf;cases hr:Jrp v with
 | false =>
  rw [hr] at hR;rw [show Jt3 v=false by unfold Jt3;rw [hr];rfl];(refine bgo Tryz.func17 ?_;simp only [go_sem,simprocAttr]);(repeat' (first | ((refine Jqa (hR) ?_);simp only [go_sem,simprocAttr]) | fail))
 | true =>
  rw [hr] at hR;rw [show Jt3 v=allF (Jtf v) v.length 0 by unfold Jt3;rw [hr];rfl];obtain ⟨t,hok,hk9,ht⟩:=Jrz.1 hr;have hsc:∀ (i:Nat) (r:YRow),v[i]? = some r→r.kind=1→∃ m:Nat,r.many=(m:Int)∧i+m<v.length∧1≤r.n∧r.n≤31∧∀ j q,j<m→v[i+1+j]? = some q→Jrg q.n q.c:=by
   have hF:(RF.cons [] t .nil).enc=v:=by rw [Jqf,Jq5,List.append_nil,ht]
   have:=J0u v.length (.cons [] t .nil) (by rw [hF];exact Nat.le_refl _) (by rw [Jrv];exact ⟨hok,Jsc⟩);rw [hF] at this;exact this
  (refine bgo Tryz.func17 ?_;simp only [go_sem,simprocAttr]);(repeat' (first | ((refine Jqa (hR) ?_);simp only [go_sem,simprocAttr,Jqb]) | fail));refine SWP.loop (fun i:Nat=>⟨Ba 32 [(0,.p (.sl (rowL v))),(10,.p (.sl (rowL v))),(11,.p (.int .i64 v.length)),(12,.p (.int .i64 i))],[]⟩) (fun i=>i≤v.length∧allF (Jtf v) v.length 0=allF (Jtf v) (v.length - i) i) (fun i=>v.length - i) 0 Jqc ⟨Nat.zero_le _,rfl⟩ ?_;rintro i ⟨hi,hall⟩;by_cases hlt:¬ i<v.length
  ·have c1:((i:Int)<(v.length:Int))=False:=eq_false omg;rw [show v.length - i=0 by omega,allF] at hall;rw [hall];(refine lws ?_;simp only [go_sem,simprocAttr,c1])
   skip
  ·have hlt:=Decidable.not_not.1 hlt;have c1:((i:Int)<(v.length:Int))=True:=eq_true omg;obtain ⟨r,hq⟩:∃ r,v[i]? = some r:=⟨_,List.getElem?_eq_getElem hlt⟩
   have hg:=Jse hq;have w1:=wj1 (i:=i) omg;obtain ⟨k,hk1⟩:∃ k,v.length - i=k+1:=⟨v.length - i - 1,by omega⟩
   rw [hk1,allF] at hall;by_cases h1:r.kind=1
   ·have c2:=eq_true h1;obtain ⟨m,hrm,hb,hn0,hn1,hat⟩:=hsc i r hq h1;obtain ⟨N,hN⟩:∃ N:Nat,r.n=(N:Int):=⟨r.n.toNat,by omega⟩
    have hA:=J4i v i m r hq hrm hb omg;have hat':∀ a∈Jq0 v i m,Jrg a.1 a.2∧a.2.s.length≤500:=by
     intro a ha;obtain ⟨j,hj⟩:=List.getElem?_of_mem ha;have hjm:j<m:=by
      have:=(List.getElem?_eq_some_iff.1 hj).1;rw [Jun hb] at this;exact this
     obtain ⟨q,hq2⟩:∃ q,v[i+1+j]? = some q:=⟨_,List.getElem?_eq_getElem omg⟩
     have:=Jw8 (m:=m) hq2 hjm;rw [this] at hj;cases hj;exact ⟨hat j q hjm hq2,hs q (List.mem_of_getElem? hq2)⟩
    have hLs:=J87 N (Jq0 v i m) omg (by rw [Jun hb];omega) hat';have hga:Jtf v i=((Jsi (Jq0 v i m)).find? (Jr2 (N:Int) (Jq0 v i m))).isSome:=by
     unfold Jtf;rw [hq];simp only [h1,if_true,hrm,Int.toNat_natCast,hN]
    rw [hga] at hall;rw [hN] at hg;have hallS:((Jsi (Jq0 v i m)).find? (Jr2 (N:Int) (Jq0 v i m))).isSome=true→allF (Jtf v) v.length 0=allF (Jtf v) (v.length - (i+1)) (i+1):=fun h=>by
     rw [hall,h,show v.length - (i+1)=k by omega];rfl
    have hallN:((Jsi (Jq0 v i m)).find? (Jr2 (N:Int) (Jq0 v i m))).isSome=false→allF (Jtf v) v.length 0=false:=fun h=>by
     rw [hall,h];rfl
    clear hall;cases hfd:(Jsi (Jq0 v i m)).find? (Jr2 (N:Int) (Jq0 v i m)) with
    | none =>
     rw [hfd] at hLs hallN;have hall:=hallN rfl;simp only [besL] at hLs;(refine lws ?_;simp only [go_sem,simprocAttr,c1,c2,hg]);refine Jqn (Jru _ 4 (T:=25) (ls:=[.p (.int .i64 r.kind),.p (.int .i64 r.many),.p (.str r.name),.p (.str r.s),.p (.int .i64 N),.p (.int .i64 r.c.kind),.p (.int .i64 r.c.many),.p (.str r.c.name),.p (.str r.c.s),.p (.bool r.c.neg),.p (.int .i64 r.c.e)]) (ps:=[.int .i64 r.kind,.int .i64 r.many,.str r.name,.str r.s,.int .i64 N,.int .i64 r.c.kind,.int .i64 r.c.many,.str r.c.name,.str r.c.s,.bool r.c.neg,.int .i64 r.c.e]) rfl rfl) ?_;simp only [go_sem,simprocAttr];refine Jqn (show St.Le _ ⟨Ba 32 [(0,.p (.sl (rowL v))),(3,.p (.int .i64 i)),(4,.eptr [.int .i64 r.kind,.int .i64 r.many,.str r.name,.str r.s,.int .i64 N,.int .i64 r.c.kind,.int .i64 r.c.many,.str r.c.name,.str r.c.s,.bool r.c.neg,.int .i64 r.c.e]),(10,.p (.sl (rowL v))),(11,.p (.int .i64 v.length)),(12,.p (.int .i64 i))],[]⟩ from Jqc) ?_;refine Jtx ⟨Ba 32 [(0,.p (.sl (rowL v))),(6,.p (.bool false)),(10,.p (.sl (rowL v))),(11,.p (.int .i64 v.length)),(12,.p (.int .i64 i))],[]⟩ ?_ ?_
     ·refine Juo 9 [0,1,2,3,4,5,6,7,8] (.node 9 (.node 10 (.node 11 .leaf .nil) .nil) .nil) 3 hm rfl krf krf ?_;simp only [go_sem,simprocAttr];(repeat' (first | (refine And.intro ?_ ?_)|((first | (refine Jqe (hA) ?_)|(refine Jqe (hLs) ?_));simp only [go_sem,simprocAttr]) | fail))
      all_goals first
       | omega
       | exact rfl
       | exact Jqc
     ·simp only [go_sem,simprocAttr];exact hall.symm
    | some x =>
     rw [hfd] at hLs hallS;have hall:=hallS rfl;simp only [besL] at hLs;(refine lws ?_;simp only [go_sem,simprocAttr,c1,c2,hg]);refine Jqn (Jru _ 4 (T:=25) (ls:=[.p (.int .i64 r.kind),.p (.int .i64 r.many),.p (.str r.name),.p (.str r.s),.p (.int .i64 N),.p (.int .i64 r.c.kind),.p (.int .i64 r.c.many),.p (.str r.c.name),.p (.str r.c.s),.p (.bool r.c.neg),.p (.int .i64 r.c.e)]) (ps:=[.int .i64 r.kind,.int .i64 r.many,.str r.name,.str r.s,.int .i64 N,.int .i64 r.c.kind,.int .i64 r.c.many,.str r.c.name,.str r.c.s,.bool r.c.neg,.int .i64 r.c.e]) rfl rfl) ?_;simp only [go_sem,simprocAttr];refine Jqn (show St.Le _ ⟨Ba 32 [(0,.p (.sl (rowL v))),(3,.p (.int .i64 i)),(4,.eptr [.int .i64 r.kind,.int .i64 r.many,.str r.name,.str r.s,.int .i64 N,.int .i64 r.c.kind,.int .i64 r.c.many,.str r.c.name,.str r.c.s,.bool r.c.neg,.int .i64 r.c.e]),(10,.p (.sl (rowL v))),(11,.p (.int .i64 v.length)),(12,.p (.int .i64 i))],[]⟩ from Jqc) ?_;refine Jtx ⟨Ba 32 [(0,.p (.sl (rowL v))),(6,.p (.bool true)),(10,.p (.sl (rowL v))),(11,.p (.int .i64 v.length)),(12,.p (.int .i64 i))],[]⟩ ?_ ?_
     ·refine Juo 9 [0,1,2,3,4,5,6,7,8] (.node 9 (.node 10 (.node 11 .leaf .nil) .nil) .nil) 3 hm rfl krf krf ?_;simp only [go_sem,simprocAttr];(repeat' (first | (refine And.intro ?_ ?_)|((first | (refine Jqe (hA) ?_)|(refine Jqe (hLs) ?_));simp only [go_sem,simprocAttr]) | fail))
      all_goals first
       | omega
       | exact rfl
       | exact Jqc
     ·simp only [go_sem,simprocAttr,w1];exact ⟨i+1,⟨by omega,hall⟩,by omega,Jqc⟩
   ·have c2:=eq_false h1;rw [show Jtf v i=true by unfold Jtf;rw [hq];simp only [if_neg h1],Bool.true_and] at hall;(refine lws ?_;simp only [go_sem,simprocAttr,c1,c2,hg,w1]);exact ⟨i+1,⟨by omega,by rw [hall,show v.length - (i+1)=k by omega]⟩,by omega,Jqc⟩
end Go.LX
namespace Go.LX
open Go
def Juk (k:Nat):List UInt8:=if k=0 then [110,117,108,108] else if k=1 then [102,97,108,115,101] else if k=2 then [116,114,117,101] else if k=3 then [110,117,109] else [115,116,114]
def Jv0 (m:Nat):List (List UInt8):=((List.range 5).filter fun k:Nat=>Js1 m k).map Juk
def Jrw (a:Int×Node):List UInt8:=Jxy a.1 ++ [32] ++ Jrx a.2
def Ju6 (m:Nat) (l:List (Int×Node)):List UInt8:=Jrm [124] (Jv0 m) ++ (if l=[] then [] else 40 :: (Jrm [44,32] (l.map Jrw) ++ [41]))
abbrev TTx:=List UInt8×List UInt8
def Jta (p:TTx):List UInt8:=nmT p.1 ++ [58,32] ++ p.2
def Jws (n:Int):List (List UInt8):=if n=1 then [[63]] else []
def Jr9 (k:Int) (s:List UInt8):List UInt8 :=
 if k=3 then [123,63,58,32] else if k=4 then [116,117,112,40] else if k=5 then [91] else if k=6 then [101,110,116,114,105,101,115,40]
 else if k=7 then [115,111,114,116,101,100,40] ++ s ++ [44,32] else [103,114,111,117,112,101,100,40] ++ s ++ [44,32]
def Jsk (k:Int):UInt8:=if k=3 then 125 else if k=5 then 93 else 41
def Ju4 (k:Int) (s:List UInt8) (n:Int) (l:List TTx) (ats:List (Int×Node)):List UInt8 :=
 if k=0 then [97,110,121] else if k=1 then Ju6 n.toNat ats
 else if k=2 then 123 :: (Jrm [44,32] (l.map Jta ++ Jws n) ++ [125])
 else Jr9 k s ++ Jrm [44,32] (l.map (·.2)) ++ [Jsk k]
mutual
def Js5:RT→List UInt8
 | .mk k s n c kids=>Ju4 k s n (Jqs kids) (Jqq kids.list)
def Jqs:RF→List TTx
 | .nil=>[]
 | .cons nm t r=>(nm,Js5 t) :: Jqs r
end
theorem J2g {k:Int} {s:List UInt8} {n:Int} {c:Node} {kids:RF}:Js5 (.mk k s n c kids)=Ju4 k s n (Jqs kids) (Jqq kids.list):=by rw [Js5]
theorem Jur:∀ f:RF,Jqs f=f.list.map fun p=>(p.1,Js5 p.2)
 | .nil=>by rw [Jqs];rfl
 | .cons nm t r=>by rw [Jqs,Jur r];rfl
theorem Jyp (f:RF):(Jqs f).length=f.len:=by rw [Jur,List.length_map,Jrb]
theorem J5d {f:RF} {i:Nat} {p:RKT} (h:f.list[i]? = some p):(Jqs f)[i]? = some (p.1,Js5 p.2):=by rw [Jur,List.getElem?_map,h];rfl
def restJ:List (List UInt8)→List UInt8
 | []=>[]
 | x :: l=>44 :: 32 :: (x ++ restJ l)
def itemTx:Option RKT→List UInt8
 | none=>[63]
 | some p=>Jta (p.1,Js5 p.2)
end Go.LX
