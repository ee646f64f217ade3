/- Types that are right, the document's answer: rows. -/
import Derived.Test.YtpaiiekgdgjjnaaGreatDoorLxY
import Derived.Test.YtpaiiekgdgjjnaaGreatDoorLxT
import Derived.Test.YtpaiiekgdgjjnaaGreatDoorLxS
import Derived.Test.YtpaiiekgdgjjnaaGreatDoorProg
import Derived.WalkKit
import Derived.WalkSpells
import Derived.Lib.ConvBytes
import Derived.Lib.SlBytesRow
import Derived.Lib.AtoiErrMem
set_option linter.unusedSimpArgs false
set_option linter.unusedVariables false
set_option linter.unusedSectionVars false
set_option linter.unnecessarySimpa false
set_option maxRecDepth 100000
set_option maxHeartbeats 2000000
namespace Go.LX
open Go Go.RowKit Go.Proofs
attribute [local irreducible] Al SWP Bi
structure NodeFitC (n:Node):Prop where
 s:n.s.length≤1000000
 e0:-9223372036854775808≤n.e
 e1:n.e≤9223372036854775807
theorem Jwe (n:Node) (hnm:n.name≠[]):Det cx 40 [.p (.sl [[.int .i64 n.kind,.int .i64 n.many,.str n.name,.str n.s,.bool n.neg,.int .i64 n.e]])] [] (.p (.bool false)) []:=by
 have hg0:([[PV.int .i64 n.kind,PV.int .i64 n.many,PV.str n.name,PV.str n.s,PV.bool n.neg,PV.int .i64 n.e]]:List (List PV))[0]? = some [PV.int .i64 n.kind,PV.int .i64 n.many,PV.str n.name,PV.str n.s,PV.bool n.neg,PV.int .i64 n.e]:=rfl
 have c2:(n.name=[])=False:=eq_false hnm
 have hN:=Uv [n] (by simp)
 rw [show valL [n]=[[.int .i64 n.kind,.int .i64 n.many,.str n.name,.str n.s,.bool n.neg,.int .i64 n.e]] from rfl] at hN
 (refine Jqa false [] Tryz.func40 ?_;refine Ae hm _ _ _ ?_;simp only [Tryz.ntmps40,Tryz.results40,go_sem,simprocAttr,hg0,c2,List.length_cons,List.length_nil])
 skip
theorem Jz2 (n:Node) (hf:NodeFitC n):Det cx 142 [.p (.agg [.int .i64 n.kind,.int .i64 n.many,.str n.name,.str n.s,.bool n.neg,.int .i64 n.e])] [] (.p (.bool (decide (Jq0 n)))) []:=by
 by_cases hnm:n.name=[]
 ·exact Jv7 n ⟨hf.s,by rw [hnm];simp,hf.e0,hf.e1⟩
 ·rw [decide_eq_false (fun h=>hnm h.2.1)]
  have hR:=Jwe n hnm
  by_cases hk:n.kind<5
  ·have c1:(n.kind<5)=True:=eq_true hk
   (refine Jqa false [] Tryz.func142 ?_;refine Ae hm _ _ _ ?_;simp only [Tryz.ntmps142,Tryz.results142,go_sem,simprocAttr,c1,decide_true])
   (repeat' (first | ((refine Det.use (hR) ?_);simp only [go_sem,simprocAttr]) | fail))
  ·have c1:(n.kind<5)=False:=eq_false hk
   (refine Jqa false [] Tryz.func142 ?_;refine Ae hm _ _ _ ?_;simp only [Tryz.ntmps142,Tryz.results142,go_sem,simprocAttr,c1,decide_false])
   skip
theorem J1h (n:Int) (c:Node) (hf:NodeFitC c):Det cx 286 [.p (.agg [.int .i64 n,.int .i64 c.kind,.int .i64 c.many,.str c.name,.str c.s,.bool c.neg,.int .i64 c.e])] [] (.p (.bool (decide (Jrb n c)))) []:=by
 have hP:=Jz2 c hf
 by_cases h0:0≤n
 ·by_cases h5:n≤5
  ·have c1:=eq_true h0
   have c2:=eq_true h5
   rw [show decide (Jrb n c)=decide (Jq0 c) by rw [Bool.eq_iff_iff];simp [Jrb,h0,h5]]
   (refine Jqa false [] Tryz.func286 ?_;refine Ae hm _ _ _ ?_;simp only [Tryz.ntmps286,Tryz.results286,go_sem,simprocAttr,c1,c2,decide_true])
   (repeat' (first | ((refine Det.use (hP) ?_);simp only [go_sem,simprocAttr]) | fail))
  ·have c1:=eq_true h0
   have c2:=eq_false h5
   rw [show decide (Jrb n c)=false from decide_eq_false fun h=>h5 h.2.1]
   (refine Jqa false [] Tryz.func286 ?_;refine Ae hm _ _ _ ?_;simp only [Tryz.ntmps286,Tryz.results286,go_sem,simprocAttr,c1,c2,decide_true,decide_false])
   skip
 ·have c1:=eq_false h0
  rw [show decide (Jrb n c)=false from decide_eq_false fun h=>h0 h.1]
  (refine Jqa false [] Tryz.func286 ?_;refine Ae hm _ _ _ ?_;simp only [Tryz.ntmps286,Tryz.results286,go_sem,simprocAttr,c1,decide_true,decide_false])
  skip
theorem Jr6 {c:Node}:c=Jrc ↔ c.kind=0∧c.many=0∧c.name=[]∧c.s=[]∧c.neg=false∧c.e=0:=by
 rw [← Qo];rfl
theorem J6v (k m:Int) (nm s:List UInt8) (n:Int) (c:Node) (hs:s.length≤1000000) (hf:NodeFitC c):Det cx 243 [.p (.agg [.int .i64 k,.int .i64 m,.str nm,.str s,.int .i64 n,.int .i64 c.kind,.int .i64 c.many,.str c.name,.str c.s,.bool c.neg,.int .i64 c.e])] [] (.p (.bool (decide (Jq6 k s n c m)))) []:=by
 have hA:=J1h n c hf
 have hP:=Jxh s hs
 by_cases k0:k=0
 ·subst k0
  (refine Jqa false [] Tryz.func243 ?_;refine Ae hm _ _ _ ?_;simp only [Tryz.ntmps243,Tryz.results243,go_sem,simprocAttr])
  (repeat' (refine iteI (fun h=>?_) (fun h=>?_)))
  all_goals (clear hA hP hf hs)
  all_goals (rw [Bool.eq_iff_iff])
  all_goals (simp only [Jq6,Jr6,decide_eq_true_eq,Int.reduceEq,if_true,if_false,true_or,or_true,or_false,false_or,or_self,ite_true,ite_false,reduceIte])
  all_goals (try simp_all)
  all_goals (try omega)
 ·skip
  by_cases k1:k=1
  ·subst k1
   (refine Jqa false [] Tryz.func243 ?_;refine Ae hm _ _ _ ?_;simp only [Tryz.ntmps243,Tryz.results243,go_sem,simprocAttr])
   (repeat' (refine iteI (fun h=>?_) (fun h=>?_)))
   all_goals (clear hA hP hf hs)
   all_goals (rw [Bool.eq_iff_iff])
   all_goals (simp only [Jq6,Jr6,decide_eq_true_eq,Int.reduceEq,if_true,if_false,true_or,or_true,or_false,false_or,or_self,ite_true,ite_false,reduceIte])
   all_goals (try simp_all)
   all_goals (try omega)
  ·skip
   by_cases k9:k=9
   ·subst k9
    (refine Jqa false [] Tryz.func243 ?_;refine Ae hm _ _ _ ?_;simp only [Tryz.ntmps243,Tryz.results243,go_sem,simprocAttr])
    (repeat' (first | (refine iteI (fun h=>?_) (fun h=>?_))|((refine Det.use (hA) ?_);simp only [go_sem,simprocAttr]) | fail))
    all_goals (clear hA hP hf hs)
    all_goals (rw [Bool.eq_iff_iff])
    all_goals (simp only [Jq6,Jr6,decide_eq_true_eq,Int.reduceEq,if_true,if_false,true_or,or_true,or_false,false_or,or_self,ite_true,ite_false,reduceIte])
    all_goals (try simp_all)
    all_goals (try omega)
   ·skip
    by_cases k2:k=2
    ·subst k2
     (refine Jqa false [] Tryz.func243 ?_;refine Ae hm _ _ _ ?_;simp only [Tryz.ntmps243,Tryz.results243,go_sem,simprocAttr])
     (repeat' (refine iteI (fun h=>?_) (fun h=>?_)))
     all_goals (clear hA hP hf hs)
     all_goals (rw [Bool.eq_iff_iff])
     all_goals (simp only [Jq6,Jr6,decide_eq_true_eq,Int.reduceEq,if_true,if_false,true_or,or_true,or_false,false_or,or_self,ite_true,ite_false,reduceIte])
     all_goals (try simp_all)
     all_goals (try omega)
    ·skip
     by_cases k4:k=4
     ·subst k4
      (refine Jqa false [] Tryz.func243 ?_;refine Ae hm _ _ _ ?_;simp only [Tryz.ntmps243,Tryz.results243,go_sem,simprocAttr])
      (repeat' (refine iteI (fun h=>?_) (fun h=>?_)))
      all_goals (clear hA hP hf hs)
      all_goals (rw [Bool.eq_iff_iff])
      all_goals (simp only [Jq6,Jr6,decide_eq_true_eq,Int.reduceEq,if_true,if_false,true_or,or_true,or_false,false_or,or_self,ite_true,ite_false,reduceIte])
      all_goals (try simp_all)
      all_goals (try omega)
     ·skip
      by_cases k3:k=3
      ·subst k3
       (refine Jqa false [] Tryz.func243 ?_;refine Ae hm _ _ _ ?_;simp only [Tryz.ntmps243,Tryz.results243,go_sem,simprocAttr])
       (repeat' (refine iteI (fun h=>?_) (fun h=>?_)))
       all_goals (clear hA hP hf hs)
       all_goals (rw [Bool.eq_iff_iff])
       all_goals (simp only [Jq6,Jr6,decide_eq_true_eq,Int.reduceEq,if_true,if_false,true_or,or_true,or_false,false_or,or_self,ite_true,ite_false,reduceIte])
       all_goals (try simp_all)
       all_goals (try omega)
      ·skip
       by_cases k5:k=5
       ·subst k5
        (refine Jqa false [] Tryz.func243 ?_;refine Ae hm _ _ _ ?_;simp only [Tryz.ntmps243,Tryz.results243,go_sem,simprocAttr])
        (repeat' (refine iteI (fun h=>?_) (fun h=>?_)))
        all_goals (clear hA hP hf hs)
        all_goals (rw [Bool.eq_iff_iff])
        all_goals (simp only [Jq6,Jr6,decide_eq_true_eq,Int.reduceEq,if_true,if_false,true_or,or_true,or_false,false_or,or_self,ite_true,ite_false,reduceIte])
        all_goals (try simp_all)
        all_goals (try omega)
       ·skip
        by_cases k6:k=6
        ·subst k6
         (refine Jqa false [] Tryz.func243 ?_;refine Ae hm _ _ _ ?_;simp only [Tryz.ntmps243,Tryz.results243,go_sem,simprocAttr])
         (repeat' (refine iteI (fun h=>?_) (fun h=>?_)))
         all_goals (clear hA hP hf hs)
         all_goals (rw [Bool.eq_iff_iff])
         all_goals (simp only [Jq6,Jr6,decide_eq_true_eq,Int.reduceEq,if_true,if_false,true_or,or_true,or_false,false_or,or_self,ite_true,ite_false,reduceIte])
         all_goals (try simp_all)
         all_goals (try omega)
        ·skip
         by_cases k7:k=7
         ·subst k7
          (refine Jqa false [] Tryz.func243 ?_;refine Ae hm _ _ _ ?_;simp only [Tryz.ntmps243,Tryz.results243,go_sem,simprocAttr])
          (repeat' (first | (refine iteI (fun h=>?_) (fun h=>?_))|((refine Det.use (hP) ?_);simp only [go_sem,simprocAttr]) | fail))
          all_goals (clear hA hP hf hs)
          all_goals (rw [Bool.eq_iff_iff])
          all_goals (simp only [Jq6,Jr6,decide_eq_true_eq,Int.reduceEq,if_true,if_false,true_or,or_true,or_false,false_or,or_self,ite_true,ite_false,reduceIte])
          all_goals (try simp_all)
          all_goals (try omega)
         ·skip
          by_cases k8:k=8
          ·subst k8
           (refine Jqa false [] Tryz.func243 ?_;refine Ae hm _ _ _ ?_;simp only [Tryz.ntmps243,Tryz.results243,go_sem,simprocAttr])
           (repeat' (first | (refine iteI (fun h=>?_) (fun h=>?_))|((refine Det.use (hP) ?_);simp only [go_sem,simprocAttr]) | fail))
           all_goals (clear hA hP hf hs)
           all_goals (rw [Bool.eq_iff_iff])
           all_goals (simp only [Jq6,Jr6,decide_eq_true_eq,Int.reduceEq,if_true,if_false,true_or,or_true,or_false,false_or,or_self,ite_true,ite_false,reduceIte])
           all_goals (try simp_all)
           all_goals (try omega)
          ·skip
           have e0:=eq_false k0
           have e1:=eq_false k1
           have e9:=eq_false k9
           have e2:=eq_false k2
           have e4:=eq_false k4
           have e3:=eq_false k3
           have e5:=eq_false k5
           have e6:=eq_false k6
           have e7:=eq_false k7
           have e8:=eq_false k8
           rw [show decide (Jq6 k s n c m)=false by simp [Jq6,k0,k1,k9,k2,k4,k3,k5,k6,k7,k8]]
           (refine Jqa false [] Tryz.func243 ?_;refine Ae hm _ _ _ ?_;simp only [Tryz.ntmps243,Tryz.results243,go_sem,simprocAttr,e0,e1,e9,e2,e4,e3,e5,e6,e7,e8])
           skip
end Go.LX
set_option maxRecDepth 100000
set_option maxHeartbeats 2000000
namespace Go.LX
open Go Go.RowKit Go.Proofs
attribute [local irreducible] Al SWP Bi
open Classical in
noncomputable def J0y (k:Int) (l:List RKT):Bool:=decide (Jrn k l)
theorem J5v {k:Int} {l:List RKT} (h:Jrn k l):true=J0y k l:=by unfold J0y;exact (@decide_eq_true _ (Classical.propDecidable _) h).symm
theorem J5y {k:Int} {l:List RKT} (h:¬ Jrn k l):false=J0y k l:=by unfold J0y;exact (@decide_eq_false _ (Classical.propDecidable _) h).symm
def Jvn (k:Int) (j:Nat) (last:List UInt8) (l:List RKT):Prop:=Jrn k l∧(k=2→j≠0→∀ q,l.head? = some q→Op.bytesLess last q.1=true)
theorem J40 (k:Int) (j:Nat) (last:List UInt8):Jvn k j last []:=⟨Juc k,fun _ _ q h=>by cases h⟩
theorem J2j {k:Int} {j:Nat} {last:List UInt8} {p:RKT} {l:List RKT}:Jvn k j last (p :: l) ↔ (Jwy k p∧(k=2→j≠0→Op.bytesLess last p.1=true))∧Jvn k (j+1) p.1 l:=by
 unfold Jvn
 rw [J1s]
 constructor
 ·rintro ⟨⟨h1,h2,h3⟩,h4⟩
  exact ⟨⟨h1,fun hk hj=>h4 hk hj p rfl⟩,h3,fun hk _ q hq=>h2 hk q hq⟩
 ·rintro ⟨⟨h1,h2⟩,h3,h4⟩
  exact ⟨⟨h1,fun hk q hq=>h4 hk (by omega) q hq,h3⟩,fun hk hj q hq=>by cases hq;exact h2 hk hj⟩
theorem Jzr {v:List YRow} {j:Nat} {nm:List UInt8} {t:RT} {b:List YRow} (h:v.drop j=t.enc nm ++ b):∃ (n:Int) (s:List UInt8) (g:Int) (e:Node),(rowL v)[j]? = some [.int .i64 t.kind,.int .i64 n,.str nm,.str s,.int .i64 g,.int .i64 e.kind,.int .i64 e.many,.str e.name,.str e.s,.bool e.neg,.int .i64 e.e]:=by
 cases t with
 | mk k s g e kids =>
  rw [Jqk] at h
  exact ⟨kids.len,s,g,e,Jru h⟩
theorem J6i (v:List YRow) (i:Nat) (nm:List UInt8) (k:Int) (s:List UInt8) (g:Int) (e:Node) (kids:RF) (rest:List YRow) (hv:v.length≤1000000) (h:v.drop i=(RT.mk k s g e kids).enc nm ++ rest) (hs:∀ n∈v,n.name.length≤1000000):Det cx 244 [.p (.sl (rowL v)),.p (.int .i64 i)] [] (.p (.bool (J0y k kids.list))) []:=by
 have hll:=RF.len_le kids
 rw [Jqk] at h
 have hg0:=Jru h
 rw [Jqy] at hg0
 have hb:=Ju1 h (by simp)
 simp only [List.cons_append,List.length_cons,List.length_append] at hb
 have w0:=wj1 (i:=i) (by omega)
 (refine Jqa false [] Tryz.func244 ?_;refine Ae hm _ _ _ ?_;simp only [Tryz.ntmps244,Tryz.results244,go_sem,simprocAttr,hg0,w0,Jqe,if_true,if_false])
 skip
 refine SWP.loop (fun x:Nat×Nat×RF×List UInt8=>⟨Ba 74 [(0,.p (.sl (rowL v))),(1,.p (.int .i64 i)),(5,.p (.int .i64 x.2.1)),(6,.p (.str x.2.2.2)),(7,.p (.int .i64 x.1))],[]⟩) (fun x=>x.1+x.2.2.1.len=kids.len∧v.drop x.2.1=x.2.2.1.enc ++ rest∧x.2.1+x.2.2.1.enc.length=i+1+kids.enc.length∧(Jrn k kids.list ↔ Jvn k x.1 x.2.2.2 x.2.2.1.list)) (fun x=>x.2.2.1.enc.length) (0,i+1,kids,[]) Jqb ⟨by simp,by simp only;rw [← List.drop_drop,h];rfl,by simp only,⟨fun h=>⟨h,fun _ h=>absurd rfl h⟩,fun h=>h.1⟩⟩ ?_
 rintro ⟨j,a,F,last⟩ ⟨h1,h2,h3,h4⟩
 simp only at h1 h2 h3 h4
 match F,h1,h2,h3,h4 with
 | .nil,h1,h2,h3,h4 =>
  simp only [RF.len] at h1
  have c1:((j:Int)<(kids.len:Int))=False:=eq_false (by omega)
  have hK:=h4.2 (J40 k j last)
  (refine Ae hm _ _ _ ?_;simp only [go_sem,simprocAttr,hg0,c1])
  skip
  exact J5v hK
 | .cons nm' t r,h1,h2,h3,h4 =>
  rw [Jrq] at h1
  rw [Jqf] at h2 h3
  have hp:=Jr9 t nm'
  simp only [List.length_append] at h3
  obtain ⟨n',s',g',e',hga⟩:=Jzr (v:=v) (j:=a) (nm:=nm') (t:=t) (b:=r.enc ++ rest) (by rw [h2,List.append_assoc])
  have c1:((j:Int)<(kids.len:Int))=True:=eq_true (by omega)
  rw [RF.list,J2j] at h4
  simp only at h4
  have w1:=wj1 (i:=j) (by omega)
  have hnl:nm'.length≤1000000:=by
   have hd2:v.drop a=t.enc nm' ++ (r.enc ++ rest):=by rw [h2,List.append_assoc]
   cases t with
   | mk k2 s2 g2 e2 kk2 =>
    rw [Jqk] at hd2
    have hm:(⟨k2,kk2.len,nm',s2,g2,e2⟩:YRow)∈v.drop a:=by rw [hd2];exact List.mem_cons_self
    exact hs _ (List.mem_of_mem_drop hm)
  have hNx:=J1b v a nm' t (r.enc ++ rest) hv (by rw [h2,List.append_assoc])
  have hd:v.drop (a+(t.enc nm').length)=r.enc ++ rest:=by rw [← List.drop_drop,h2,List.append_assoc,List.drop_left]
  have hno:¬ (Jwy k (nm',t)∧(k=2→j≠0→Op.bytesLess last nm'=true))→false=J0y k kids.list:=fun hn=>J5y fun hk=>hn (h4.1 hk).1
  have hyes:(Jwy k (nm',t)∧(k=2→j≠0→Op.bytesLess last nm'=true))→(Jrn k kids.list ↔ Jvn k (j+1) nm' r.list):=fun hy=>h4.trans ⟨fun h=>h.2,fun h=>⟨hy,h⟩⟩
  have hle:=J5m nm' last
  have hU:=Cn nm' hnl
  have hfin:Jwy k (nm',t)∧(k=2→j≠0→Op.bytesLess last nm'=true)→∃ y:Nat×Nat×RF×List UInt8,(y.1+y.2.2.1.len=kids.len∧v.drop y.2.1=y.2.2.1.enc ++ rest∧y.2.1+y.2.2.1.enc.length=i+1+kids.enc.length∧(Jrn k kids.list ↔ Jvn k y.1 y.2.2.2 y.2.2.1.list))∧y.2.2.1.enc.length<(RF.cons nm' t r).enc.length∧y=(j+1,a+(t.enc nm').length,r,nm'):=fun hy =>
   ⟨(j+1,a+(t.enc nm').length,r,nm'),⟨by simp only;omega,hd,by simp only;omega,hyes hy⟩,by simp only [Jqf,List.length_append];omega,rfl⟩
  by_cases hk2:k=2
  ·subst hk2
   by_cases ht9:t.kind=9
   ·have e9:(t.kind == 9)=true:=by rw [ht9];rfl
    have b1:((2:Int) == 1)=false:=rfl
    (refine Ae hm _ _ _ ?_;simp only [go_sem,simprocAttr,hg0,c1,hga,decide_true])
    (repeat' (first | ((refine Jqd hm ?_);simp only [go_sem,simprocAttr,hg0,Bool.bne_false,e9,b1]) | fail))
    all_goals exact hno fun h=>by have:=h.1.1.1 ht9;omega
   ·have e9:(t.kind == 9)=false:=by simpa using ht9
    have b1:((2:Int) == 1)=false:=rfl
    cases hva:valid nm' with
    | false =>
     rw [hva] at hU
     (refine Ae hm _ _ _ ?_;simp only [go_sem,simprocAttr,hg0,c1,hga,decide_true])
     (repeat' (first | ((first | (refine Jqd hm ?_)|(refine Det.use (hU) ?_));simp only [go_sem,simprocAttr,hg0,Bool.not_false,bne_self_eq_false,e9,b1,Bool.not_false]) | fail))
     all_goals exact hno fun h=>by have:=h.1.2.2 rfl;simp only at this;rw [hva] at this;cases this
    | true =>
     rw [hva] at hU
     by_cases hj0:j=0
     ·have c4:((0:Int)<(j:Int))=False:=eq_false (by omega)
      obtain ⟨y,p1,p2,rfl⟩:=hfin ⟨⟨⟨fun h=>absurd h ht9,fun h=>absurd h (by decide)⟩,fun h=>absurd rfl h,fun _=>hva⟩,fun _ h=>absurd hj0 h⟩
      (refine Ae hm _ _ _ ?_;simp only [go_sem,simprocAttr,hg0,c1,hga,decide_true])
      (repeat' (first | ((first | (refine Jqd hm ?_)|(refine Det.use (hU) ?_)|(refine Det.use (hNx) ?_));simp only [go_sem,simprocAttr,hg0,decide_false,Bool.not_true,bne_self_eq_false,e9,b1,c4,w1,Bool.not_true]) | fail))
      exact ⟨_,p1,p2,Jqb⟩
     ·have c4:((0:Int)<(j:Int))=True:=eq_true (by omega)
      cases hbl:Op.bytesLess last nm' with
      | true =>
       rw [hbl,Bool.not_true] at hle
       obtain ⟨y,p1,p2,rfl⟩:=hfin ⟨⟨⟨fun h=>absurd h ht9,fun h=>absurd h (by decide)⟩,fun h=>absurd rfl h,fun _=>hva⟩,fun _ _=>hbl⟩
       (refine Ae hm _ _ _ ?_;simp only [go_sem,simprocAttr,hg0,c1,hga,decide_true])
       (repeat' (first | ((first | (refine Jqd hm ?_)|(refine Det.use (hU) ?_)|(refine Det.use (hNx) ?_));simp only [go_sem,simprocAttr,hg0,decide_true,Bool.not_true,bne_self_eq_false,e9,b1,c4,hle,w1,Bool.not_true]) | fail))
       exact ⟨_,p1,p2,Jqb⟩
      | false =>
       rw [hbl,Bool.not_false] at hle
       (refine Ae hm _ _ _ ?_;simp only [go_sem,simprocAttr,hg0,c1,hga,decide_true])
       (repeat' (first | ((first | (refine Jqd hm ?_)|(refine Det.use (hU) ?_));simp only [go_sem,simprocAttr,hg0,decide_true,Bool.not_true,bne_self_eq_false,e9,b1,c4,hle,Bool.not_true]) | fail))
       all_goals exact hno fun h=>by have:=h.2 rfl hj0;rw [hbl] at this;cases this
  ·have e2:=eq_false hk2
   by_cases hkd:(t.kind=9 ↔ k=1)
   ·by_cases hnm:nm'=[]
    ·have en:=eq_true hnm
     obtain ⟨y,p1,p2,rfl⟩:=hfin ⟨⟨hkd,fun _=>hnm,fun h=>absurd h hk2⟩,fun h=>absurd h hk2⟩
     by_cases hk1:k=1
     ·have e1:=eq_true hk1
      have b1:(k == 1)=true:=by rw [hk1];rfl
      have e9:(t.kind == 9)=true:=by rw [hkd.2 hk1];rfl
      (refine Ae hm _ _ _ ?_;simp only [go_sem,simprocAttr,hg0,c1,hga,decide_true])
      (repeat' (first | ((first | (refine Jqd hm ?_)|(refine Det.use (hNx) ?_));simp only [go_sem,simprocAttr,hg0,Bool.not_true,bne_self_eq_false,e2,e9,b1,en,w1]) | fail))
      exact ⟨_,p1,p2,Jqb⟩
     ·have e1:=eq_false hk1
      have b1:(k == 1)=false:=by simpa using hk1
      have e9:(t.kind == 9)=false:=by simpa using (fun h=>hk1 (hkd.1 h))
      (refine Ae hm _ _ _ ?_;simp only [go_sem,simprocAttr,hg0,c1,hga,decide_true])
      (repeat' (first | ((first | (refine Jqd hm ?_)|(refine Det.use (hNx) ?_));simp only [go_sem,simprocAttr,hg0,Bool.not_true,bne_self_eq_false,e2,e9,b1,en,w1]) | fail))
      exact ⟨_,p1,p2,Jqb⟩
    ·have en:=eq_false hnm
     by_cases hk1:k=1
     ·have e1:=eq_true hk1
      have b1:(k == 1)=true:=by rw [hk1];rfl
      have e9:(t.kind == 9)=true:=by rw [hkd.2 hk1];rfl
      (refine Ae hm _ _ _ ?_;simp only [go_sem,simprocAttr,hg0,c1,hga,decide_true])
      (repeat' (first | ((refine Jqd hm ?_);simp only [go_sem,simprocAttr,hg0,Bool.not_true,bne_self_eq_false,e2,e9,b1,en]) | fail))
      all_goals exact hno fun h=>hnm (h.1.2.1 hk2)
     ·have e1:=eq_false hk1
      have b1:(k == 1)=false:=by simpa using hk1
      have e9:(t.kind == 9)=false:=by simpa using (fun h=>hk1 (hkd.1 h))
      (refine Ae hm _ _ _ ?_;simp only [go_sem,simprocAttr,hg0,c1,hga,decide_true])
      (repeat' (first | ((refine Jqd hm ?_);simp only [go_sem,simprocAttr,hg0,Bool.not_true,bne_self_eq_false,e2,e9,b1,en]) | fail))
      all_goals exact hno fun h=>hnm (h.1.2.1 hk2)
   ·by_cases hk1:k=1
    ·have e1:=eq_true hk1
     have b1:(k == 1)=true:=by rw [hk1];rfl
     have e9:(t.kind == 9)=false:=by simpa using (fun h:t.kind=9=>hkd ⟨fun _=>hk1,fun _=>h⟩)
     (refine Ae hm _ _ _ ?_;simp only [go_sem,simprocAttr,hg0,c1,hga,decide_true])
     (repeat' (first | ((refine Jqd hm ?_);simp only [go_sem,simprocAttr,hg0,Bool.bne_true,Bool.not_false,e9,b1]) | fail))
     all_goals exact hno fun h=>hkd h.1.1
    ·have e1:=eq_false hk1
     have b1:(k == 1)=false:=by simpa using hk1
     have e9:(t.kind == 9)=true:=beq_iff_eq.2 (show t.kind=9 from Decidable.not_not.1 fun h:¬ t.kind=9=>hkd ⟨fun a=>absurd a h,fun a=>absurd a hk1⟩)
     (refine Ae hm _ _ _ ?_;simp only [go_sem,simprocAttr,hg0,c1,hga,decide_true])
     (repeat' (first | ((refine Jqd hm ?_);simp only [go_sem,simprocAttr,hg0,Bool.bne_false,e9,b1]) | fail))
     all_goals exact hno fun h=>hkd h.1.1
end Go.LX
set_option maxRecDepth 100000
set_option maxHeartbeats 2000000
namespace Go.LX
open Go Go.RowKit Go.Proofs
attribute [local irreducible] Al SWP Bi
def Jul (name:List UInt8):List RKT→Option (Nat×RT)
 | []=>none
 | p :: l=>if p.1=name then some (0,p.2) else (Jul name l).map fun x=>(x.1+(p.2.enc p.1).length,x.2)
def Jte:RT→List Step→Option Nat
 | _,[]=>some 0
 | t,x :: p=>if t.kind=2∧x.part=false then (match Jul x.name t.kids.list with
  | some y=>(Jte y.2 p).map fun o=>1+y.1+o
  | none=>none) else none
def Jvv (i:Nat) (o:Option Nat):Int:=match o with
 | some o=>((i+o:Nat):Int)
 | none=>-1
theorem Jzd {name:List UInt8}:∀ {f:RF},match Jul name f.list with
  | some y=>Jv1 name f.list=some y.2∧∃ b,f.enc.drop y.1=y.2.enc name ++ b
  | none=>Jv1 name f.list=none
 | .nil=>rfl
 | .cons nm t r=>by
  have ih:=Jzd (name:=name) (f:=r)
  rw [RF.list,Jul,Jv1]
  by_cases hn:nm=name
  ·subst hn
   rw [if_pos rfl,if_pos rfl]
   exact ⟨rfl,r.enc,by rw [Jqf];rfl⟩
  ·rw [if_neg hn,if_neg hn]
   cases hf:Jul name r.list with
   | none=>rw [hf] at ih;exact ih
   | some y =>
    rw [hf] at ih
    obtain ⟨h1,b,h2⟩:=ih
    refine ⟨h1,b,?_⟩
    rw [Jqf]
    show (t.enc nm ++ r.enc).drop (y.1+(t.enc nm).length)=y.2.enc name ++ b
    rw [Nat.add_comm,← List.drop_drop,List.drop_left,h2]
theorem Jzp:∀ {p:List Step} {t:RT} {nm:List UInt8},match Jte t p with
  | some o=>∃ u nm' b,Jva t p=some u∧(t.enc nm).drop o=u.enc nm' ++ b
  | none=>Jva t p=none
 | [],t,nm=>⟨t,nm,[],Jw0 t,by rw [List.drop_zero,List.append_nil]⟩
 | x :: p,.mk k s n c kids,nm=>by
  rw [Jte,Jx8]
  by_cases hk:(RT.mk k s n c kids).kind=2∧x.part=false
  ·rw [if_pos hk,if_pos hk]
   have hf:=Jzd (name:=x.name) (f:=kids)
   rw [show (RT.mk k s n c kids).kids=kids from rfl]
   cases hfo:Jul x.name kids.list with
   | none=>rw [hfo] at hf;simp only at hf ⊢;rw [hf];rfl
   | some y =>
    rw [hfo] at hf
    obtain ⟨h1,b,h2⟩:=hf
    have ih:=Jzp (p:=p) (t:=y.2) (nm:=x.name)
    simp only
    rw [h1]
    cases hl:Jte y.2 p with
    | none=>rw [hl] at ih;exact ih
    | some o =>
     rw [hl] at ih
     obtain ⟨u,nm',b',g1,g2⟩:=ih
     refine ⟨u,nm',b' ++ b,g1,?_⟩
     have ho:o≤(y.2.enc x.name).length:=by
      have hpos:=Jr9 u nm'
      have:=congrArg List.length g2
      rw [List.length_drop,List.length_append] at this
      omega
     show ((RT.mk k s n c kids).enc nm).drop (1+y.1+o)=u.enc nm' ++ (b' ++ b)
     rw [Jqk,show 1+y.1+o=(y.1+o)+1 by omega,List.drop_succ_cons,← List.drop_drop,h2,List.drop_append_of_le_length ho,g2,List.append_assoc]
  ·rw [if_neg hk,if_neg hk]
theorem J95:∀ (p:List Step) (t:RT) (v:List YRow) (i:Nat) (nm:List UInt8) (rest:List YRow),v.length≤1000000→p.length≤1000000→v.drop i=t.enc nm ++ rest→Det cx 245 [.p (.sl (rowL v)),.p (.int .i64 i),.p (.sl (Bb p))] [] (.p (.int .i64 (Jvv i (Jte t p)))) []
 | [],t,v,i,nm,rest,hv,hp,h=>by
  have c0:(((Bb []).length:Int)=0)=True:=eq_true rfl
  have hl0:Jvv i (Jte t [])=(i:Int):=by cases t;rfl
  rw [hl0]
  (refine Jqa false [] Tryz.func245 ?_;refine Ae hm _ _ _ ?_;simp only [Tryz.ntmps245,Tryz.results245,go_sem,simprocAttr,c0,if_true])
  skip
 | x :: p,.mk k s g e kids,v,i,nm,rest,hv,hp,h=>by
  have ih:=fun (t:RT) (i:Nat) (nm:List UInt8) (rest:List YRow) (h:v.drop i=t.enc nm ++ rest)=>J95 p t v i nm rest hv (by simp at hp;omega) h
  rw [Jqk] at h
  have hg0:=Jru h
  rw [Jqy] at hg0
  have hb:=Ju1 h (by simp)
  simp only [List.cons_append,List.length_cons,List.length_append] at hb
  have hll:=RF.len_le kids
  have hp0:(Bb (x :: p))[0]? = some [.bool x.part,.str x.name,.int .i64 x.n]:=rfl
  have hpl:(Bb (x :: p)).length=p.length+1:=by simp [Bb]
  have c0:(((p.length+1:Nat):Int)=0)=False:=eq_false (by omega)
  have hsl:((Bb (x :: p)).drop 1).take (p.length+1 - 1)=Bb p:=by
   rw [show Bb (x :: p)=x.cells :: Bb p from rfl,List.drop_succ_cons,List.drop_zero,Nat.add_sub_cancel,List.take_of_length_le (by simp [Bb])]
  have hel3:∀ q∈Bb (x :: p),q.length=3:=by
   intro q hq
   obtain ⟨y,_,rfl⟩:=List.mem_map.1 hq
   rfl
  have w0:=wj1 (i:=i) (by omega)
  by_cases hk:k=2
  ·have e2:=eq_true hk
   cases hpt:x.part with
   | true =>
    rw [hpt] at hp0
    rw [show Jvv i (Jte (.mk k s g e kids) (x :: p)) = -1 by rw [Jte,if_neg (by rw [hpt];simp)];rfl]
    (refine Jqa false [] Tryz.func245 ?_;refine Ae hm _ _ _ ?_;simp only [Tryz.ntmps245,Tryz.results245,go_sem,simprocAttr,hg0,hp0,hpl,c0,e2,if_true,if_false,not_true_eq_false,decide_false])
    skip
   | false =>
    rw [hpt] at hp0
    rw [Jte,if_pos ⟨hk,hpt⟩,show (RT.mk k s g e kids).kids=kids from rfl]
    (refine Jqa false [] Tryz.func245 ?_;refine Ae hm _ _ _ ?_;simp only [Tryz.ntmps245,Tryz.results245,go_sem,simprocAttr,hg0,hp0,hpl,c0,e2,w0,if_true,if_false,not_true_eq_false,decide_false])
    skip
    refine SWP.loop (fun y:Nat×Nat×RF=>⟨Ba 54 [(0,.p (.sl (rowL v))),(1,.p (.int .i64 i)),(2,.p (.sl (Bb (x :: p)))),(7,.p (.int .i64 y.2.1)),(8,.p (.int .i64 y.1))],[]⟩) (fun y=>y.1+y.2.2.len=kids.len∧v.drop y.2.1=y.2.2.enc ++ rest∧y.2.1+y.2.2.enc.length=i+1+kids.enc.length∧i+1≤y.2.1∧Jul x.name kids.list=(Jul x.name y.2.2.list).map fun z=>(z.1+(y.2.1 - (i+1)),z.2)) (fun y=>y.2.2.enc.length) (0,i+1,kids) Jqb ⟨by simp,by simp only;rw [← List.drop_drop,h];rfl,by simp only,Nat.le_refl _,by simp⟩ ?_
    rintro ⟨j,a,F⟩ ⟨h1,h2,h3,h5,h4⟩
    simp only at h1 h2 h3 h4 h5
    match F,h1,h2,h3,h4 with
    | .nil,h1,h2,h3,h4 =>
     simp only [RF.len] at h1
     have c1:((j:Int)<(kids.len:Int))=False:=eq_false (by omega)
     have h4:Jul x.name kids.list=none:=h4
     rw [h4]
     (refine Ae hm _ _ _ ?_;simp only [go_sem,simprocAttr,hg0,decide_false,c1])
     skip
     all_goals rfl
    | .cons nm' t r,h1,h2,h3,h4 =>
     rw [Jrq] at h1
     rw [Jqf] at h2 h3
     have hp:=Jr9 t nm'
     simp only [List.length_append] at h3
     have h2':v.drop a=t.enc nm' ++ (r.enc ++ rest):=by rw [h2,List.append_assoc]
     obtain ⟨k',n',s',g',e',hga⟩:=J0w h2'
     have c1:((j:Int)<(kids.len:Int))=True:=eq_true (by omega)
     rw [RF.list,Jul] at h4
     simp only at h4
     by_cases hn:nm'=x.name
     ·rw [if_pos hn] at h4
      have en:=eq_true hn
      have hL:=ih t a nm' (r.enc ++ rest) h2'
      have h4:Jul x.name kids.list=some (0+(a - (i+1)),t):=h4
      rw [h4]
      have hres:Jvv i ((Jte t p).map fun o=>1+(0+(a - (i+1)))+o)=Jvv a (Jte t p):=by
       cases Jte t p with
       | none=>rfl
       | some o=>simp only [Jvv,Option.map_some];omega
      simp only
      rw [hres]
      (refine Ae hm _ _ _ ?_;simp only [go_sem,simprocAttr,hg0,c1])
      (repeat' (first | (refine And.intro hel3 ?_)|(refine Jsx ?_)|((first | (refine Jqd hm ?_)|(refine Det.use (hL) ?_));simp only [go_sem,simprocAttr,hp0,hpl,hga,en]) | fail))
     ·rw [if_neg hn] at h4
      have en:=eq_false hn
      have hNx:=J1b v a nm' t (r.enc ++ rest) hv h2'
      have w1:=wj1 (i:=j) (by omega)
      (refine Ae hm _ _ _ ?_;simp only [go_sem,simprocAttr,hg0,c1])
      (repeat' (first | ((first | (refine Jqd hm ?_)|(refine Det.use (hNx) ?_));simp only [go_sem,simprocAttr,hp0,hga,en,w1]) | fail))
      refine ⟨(j+1,a+(t.enc nm').length,r),⟨by simp only;omega,by simp only;rw [← List.drop_drop,h2',List.drop_left],by simp only;omega,by simp only;omega,?_⟩,by simp only [Jqf,List.length_append];omega,Jqb⟩
      simp only
      rw [h4,Option.map_map]
      congr 1
      funext z
      simp only [Function.comp]
      congr 1
      omega
  ·have e2:=eq_false hk
   rw [show Jvv i (Jte (.mk k s g e kids) (x :: p)) = -1 by rw [Jte,if_neg (fun h=>hk h.1)];rfl]
   (refine Jqa false [] Tryz.func245 ?_;refine Ae hm _ _ _ ?_;simp only [Tryz.ntmps245,Tryz.results245,go_sem,simprocAttr,hg0,hp0,hpl,c0,e2,if_true,if_false,not_false_eq_true,decide_true])
   skip
structure RowFit (r:YRow):Prop where
 s:r.s.length≤1000000
 name:r.name.length≤1000000
 c:NodeFitC r.c
theorem J1p (v:List YRow) (hv:v.length≤10000) (hf:∀ n∈v,RowFit n):Det cx 197 [.p (.sl (rowL v))] [] (.p (.bool (Js5 v))) []:=by
 cases v with
 | nil =>
  have hb:false=Js5 []:=Jsr (by
   rintro ⟨t,_,_,h⟩
   have:=congrArg List.length h
   have h1:=Jr9 t []
   simp at this;omega)
  have c0:(((rowL []).length:Int)=0)=True:=eq_true rfl
  rw [← hb]
  (refine Jqa false [] Tryz.func197 ?_;refine Ae hm _ _ _ ?_;simp only [Tryz.ntmps197,Tryz.results197,go_sem,simprocAttr,c0,decide_true,if_true])
  skip
 | cons n r =>
  have hg0:=Jtt (v:=n :: r) (i:=0) (n:=n) rfl
  have c0:(((n :: r).length:Int)=0)=False:=eq_false (by simp;omega)
  have hN:=J36 (n :: r) hv
  generalize hvv:n :: r=v at *
  by_cases hnm:n.name=[]
  ·have c2:=eq_true hnm
   by_cases hn9:n.kind=9
   ·have c9:=eq_true hn9
    have hb:=Jsr (v:=v) (by
     rintro ⟨t,_,h9,h⟩
     cases t with
     | mk k s g e kids =>
      rw [Jqk,← hvv] at h
      have:=(List.cons.inj h).1
      rw [this] at hn9;exact h9 hn9)
    rw [← hb]
    (refine Jqa false [] Tryz.func197 ?_;refine Ae hm _ _ _ ?_;simp only [Tryz.ntmps197,Tryz.results197,go_sem,simprocAttr,Jqe,hg0,c0,c2,c9,decide_true,decide_false,not_true_eq_false])
    skip
   ·have c9:=eq_false hn9
    by_cases hnx:Jsj v 0 1=v.length
    ·obtain ⟨nm,t,ht⟩:=J4l hnx
     have htk:nm=[]∧t.kind≠9:=by
      cases t with
      | mk k s g e kids =>
       rw [Jqk,← hvv] at ht
       have:=(List.cons.inj ht).1
       rw [this] at hnm hn9;exact ⟨hnm,hn9⟩
     obtain ⟨rfl,ht9⟩:=htk
     have c3:(Jsj v 0 1=(v.length:Int))=True:=eq_true hnx
     (refine Jqa false [] Tryz.func197 ?_;refine Ae hm _ _ _ ?_;simp only [Tryz.ntmps197,Tryz.results197,go_sem,simprocAttr,Jqe,hg0,c0,c2,c9,c3,decide_true,decide_false,not_true_eq_false])
     (repeat' (first | ((refine Det.use (hN) ?_);simp only [go_sem,simprocAttr,Jqe,c3,not_true_eq_false]) | fail))
     have hB:∀ b:Bool,(b=true ↔ okR t)→b=Js5 v:=by
      intro b hb
      rw [Bool.eq_iff_iff,hb,Jtg,ht,J4n]
      exact ⟨fun h=>⟨h,ht9⟩,fun h=>h.1⟩
     refine SWP.loop (fun x:Nat×RF=>⟨Ba 87 [(0,.p (.sl (rowL v))),(3,.p (.int .i64 x.1))],[]⟩) (fun x=>v.drop x.1=x.2.enc∧x.1+x.2.enc.length=v.length∧(okR t ↔ okRF x.2)) (fun x=>v.length - x.1) (0,.cons [] t .nil) Jqb ⟨by rw [Jqf,Jqt,List.append_nil,List.drop_zero,ht],by rw [Jqf,Jqt,List.append_nil,ht];simp,by rw [Jsb];exact ⟨fun h=>⟨h,Jst⟩,fun h=>h.1⟩⟩ ?_
     rintro ⟨i,F⟩ ⟨h1,h2,h3⟩
     simp only at h1 h2 h3
     match F,h1,h2,h3 with
     | .nil,h1,h2,h3 =>
      rw [Jqt] at h2
      have c4:((i:Int)<(v.length:Int))=False:=eq_false (by simp at h2;omega)
      (refine Ae hm _ _ _ ?_;simp only [go_sem,simprocAttr,Jqe,decide_false,c4])
      skip
      exact hB true (by rw [h3];simp [Jst])
     | .cons nm' (.mk k s g e kids) r,h1,h2,h3 =>
      rw [Jqf,Jqk] at h1 h2
      simp only [List.length_append,List.length_cons] at h2
      have c4:((i:Int)<(v.length:Int))=True:=eq_true (by omega)
      have hga:=Jru h1
      rw [Jqy] at hga
      have w1:=wj1 (i:=i) (by omega)
      rw [Jz7] at h3
      have hmem:(⟨k,kids.len,nm',s,g,e⟩:YRow)∈v:=by
       have:(⟨k,kids.len,nm',s,g,e⟩:YRow)∈v.drop i:=by rw [h1];simp
       exact List.mem_of_mem_drop this
      have hfn:=hf _ hmem
      have hpl:=J6v k kids.len nm' s g e hfn.s hfn.c
      have hri:=J6i v i nm' k s g e kids r.enc (by omega) (by rw [h1,Jqk]) fun n hn=>(hf n hn).name
      have hcont:(okR t ↔ okRF (kids.app r))→∃ y:Nat×RF,(v.drop y.1=y.2.enc∧y.1+y.2.enc.length=v.length∧(okR t ↔ okRF y.2))∧v.length - y.1<v.length - i∧y=(i+1,kids.app r):=fun h =>
       ⟨(i+1,kids.app r),⟨by simp only;rw [← List.drop_drop,h1,RF.enc_app];rfl,by simp only;rw [RF.enc_app,List.length_append];omega,h⟩,by simp only;omega,rfl⟩
      by_cases hn1:Jq6 k s g e kids.len
      ·rw [decide_eq_true hn1] at hpl
       by_cases hk1:Jrn k kids.list
       ·rw [← J5v hk1] at hri
        by_cases h78:k=7∨k=8
        ·have hm1:kids.len=1:=by
          have:=hn1
          rcases h78 with rfl | rfl <;> simp [Jq6] at this <;> omega
         obtain ⟨nm0,t0,kr,rfl⟩:∃ nm t0 kr,kids=.cons nm t0 kr:=by
          cases kids with
          | nil=>simp [RF.len] at hm1
          | cons a b c=>exact ⟨a,b,c,rfl⟩
         have hd1:v.drop (i+1)=t0.enc nm0 ++ (kr.enc ++ r.enc):=by
          rw [← List.drop_drop,h1,Jqf]
          simp
         have hP:=Jxh s hfn.s
         have hLd:=J95 (Je s).1 t0 v (i+1) nm0 _ (by omega) (by have:=(Jvy s).1;omega) hd1
         have hsp:=Jzp (p:=(Je s).1) (t:=t0) (nm:=nm0)
         cases hlo:Jte t0 (Je s).1 with
         | none =>
          rw [hlo] at hsp hLd
          have hnl:¬ Jvm k s (RF.cons nm0 t0 kr).list:=fun h=>by
           obtain ⟨u,hu,_⟩:=h h78 (nm0,t0) rfl
           simp only at hsp hu
           rw [hsp] at hu;cases hu
          simp only [Jvv] at hLd
          rcases h78 with rfl | rfl
          ·skip
           (refine Ae hm _ _ _ ?_;simp only [go_sem,simprocAttr,Jqe,decide_true,c4,hga])
           (repeat' (first | ((first | (refine Det.use (hpl) ?_)|(refine Det.use (hri) ?_)|(refine Det.use (hP) ?_)|(refine Det.use (hLd) ?_));simp only [go_sem,simprocAttr,decide_true,hga,w1,Bool.not_true]) | fail))
           exact hB false (by rw [h3];simp [hnl])
          ·skip
           (refine Ae hm _ _ _ ?_;simp only [go_sem,simprocAttr,Jqe,decide_true,c4,hga])
           (repeat' (first | ((first | (refine Det.use (hpl) ?_)|(refine Det.use (hri) ?_)|(refine Det.use (hP) ?_)|(refine Det.use (hLd) ?_));simp only [go_sem,simprocAttr,decide_true,hga,w1,Bool.not_true]) | fail))
           exact hB false (by rw [h3];simp [hnl])
         | some o =>
          rw [hlo] at hsp hLd
          obtain ⟨u,nm2,b,hu,hdo⟩:=hsp
          have ho:o≤(t0.enc nm0).length:=by
           have hpos:=Jr9 u nm2
           have:=congrArg List.length hdo
           rw [List.length_drop,List.length_append] at this
           omega
          have hdu:v.drop (i+1+o)=u.enc nm2 ++ (b ++ (kr.enc ++ r.enc)):=by
           rw [← List.drop_drop,hd1,List.drop_append_of_le_length ho,hdo,List.append_assoc]
          obtain ⟨n4,s4,g4,e4,hgu⟩:=Jzr hdu
          simp only [Jvv] at hLd
          have c7:(((i+1+o:Nat):Int)<0)=False:=eq_false (by omega)
          by_cases hu1:u.kind=1
          ·have c8:=eq_true hu1
           have hyl:Jvm k s (RF.cons nm0 t0 kr).list:=fun _ p hp=>by cases hp;exact ⟨u,hu,hu1⟩
           obtain ⟨y,p1,p2,rfl⟩:=hcont (h3.trans ⟨fun h=>h.2.2.2,fun h=>⟨hn1,hk1,hyl,h⟩⟩)
           rcases h78 with rfl | rfl
           ·skip
            (refine Ae hm _ _ _ ?_;simp only [go_sem,simprocAttr,Jqe,decide_true,c4,hga])
            (repeat' (first | ((first | (refine Det.use (hpl) ?_)|(refine Det.use (hri) ?_)|(refine Det.use (hP) ?_)|(refine Det.use (hLd) ?_));simp only [go_sem,simprocAttr,decide_false,not_true_eq_false,hga,w1,c7,c8,hgu,Bool.not_true]) | fail))
            exact ⟨_,p1,p2,Jqb⟩
           ·skip
            (refine Ae hm _ _ _ ?_;simp only [go_sem,simprocAttr,Jqe,decide_true,c4,hga])
            (repeat' (first | ((first | (refine Det.use (hpl) ?_)|(refine Det.use (hri) ?_)|(refine Det.use (hP) ?_)|(refine Det.use (hLd) ?_));simp only [go_sem,simprocAttr,decide_false,not_true_eq_false,hga,w1,c7,c8,hgu,Bool.not_true]) | fail))
            exact ⟨_,p1,p2,Jqb⟩
          ·have c8:=eq_false hu1
           have hnl:¬ Jvm k s (RF.cons nm0 t0 kr).list:=fun h=>by
            obtain ⟨u',hu',hk'⟩:=h h78 (nm0,t0) rfl
            simp only at hu'
            rw [hu] at hu';cases hu'
            exact hu1 hk'
           rcases h78 with rfl | rfl
           ·skip
            (refine Ae hm _ _ _ ?_;simp only [go_sem,simprocAttr,Jqe,decide_true,c4,hga])
            (repeat' (first | ((first | (refine Det.use (hpl) ?_)|(refine Det.use (hri) ?_)|(refine Det.use (hP) ?_)|(refine Det.use (hLd) ?_));simp only [go_sem,simprocAttr,decide_false,hga,w1,c7,c8,hgu,Bool.not_true]) | fail))
            exact hB false (by rw [h3];simp [hnl])
           ·skip
            (refine Ae hm _ _ _ ?_;simp only [go_sem,simprocAttr,Jqe,decide_true,c4,hga])
            (repeat' (first | ((first | (refine Det.use (hpl) ?_)|(refine Det.use (hri) ?_)|(refine Det.use (hP) ?_)|(refine Det.use (hLd) ?_));simp only [go_sem,simprocAttr,decide_false,hga,w1,c7,c8,hgu,Bool.not_true]) | fail))
            exact hB false (by rw [h3];simp [hnl])
        ·have c7:(k=7)=False:=eq_false (fun h=>h78 (.inl h))
         have c8:(k=8)=False:=eq_false (fun h=>h78 (.inr h))
         have hyl:Jvm k s kids.list:=fun h=>absurd h h78
         obtain ⟨y,p1,p2,rfl⟩:=hcont (h3.trans ⟨fun h=>h.2.2.2,fun h=>⟨hn1,hk1,hyl,h⟩⟩)
         (refine Ae hm _ _ _ ?_;simp only [go_sem,simprocAttr,Jqe,decide_true,c4,hga])
         (repeat' (first | ((first | (refine Det.use (hpl) ?_)|(refine Det.use (hri) ?_));simp only [go_sem,simprocAttr,hga,w1,c7,c8,Bool.not_true]) | fail))
         exact ⟨_,p1,p2,Jqb⟩
       ·rw [← J5y hk1] at hri
        (refine Ae hm _ _ _ ?_;simp only [go_sem,simprocAttr,Jqe,decide_true,c4,hga])
        (repeat' (first | ((first | (refine Det.use (hpl) ?_)|(refine Det.use (hri) ?_));simp only [go_sem,simprocAttr,Bool.not_true,Bool.not_false]) | fail))
        exact hB false (by rw [h3];simp [hk1])
      ·rw [decide_eq_false hn1] at hpl
       (refine Ae hm _ _ _ ?_;simp only [go_sem,simprocAttr,Jqe,decide_true,c4,hga])
       (repeat' (first | ((refine Det.use (hpl) ?_);simp only [go_sem,simprocAttr,Bool.not_false]) | fail))
       exact hB false (by rw [h3];simp [hn1])
    ·have c3:(Jsj v 0 1=(v.length:Int))=False:=eq_false hnx
     have hb:=Jsr (v:=v) fun h=>hnx (J2t h)
     rw [← hb]
     (refine Jqa false [] Tryz.func197 ?_;refine Ae hm _ _ _ ?_;simp only [Tryz.ntmps197,Tryz.results197,go_sem,simprocAttr,Jqe,hg0,c0,c2,c9,c3,decide_true,decide_false,not_true_eq_false,not_false_eq_true])
     (repeat' (first | ((refine Det.use (hN) ?_);simp only [go_sem,simprocAttr,Jqe,c3,not_false_eq_true]) | fail))
  ·have c2:=eq_false hnm
   have hb:=Jsr (v:=v) (by
    rintro ⟨t,_,_,h⟩
    cases t with
    | mk k s g e kids =>
     rw [Jqk,← hvv] at h
     have:=(List.cons.inj h).1
     rw [this] at hnm;exact hnm rfl)
   rw [← hb]
   (refine Jqa false [] Tryz.func197 ?_;refine Ae hm _ _ _ ?_;simp only [Tryz.ntmps197,Tryz.results197,go_sem,simprocAttr,Jqe,hg0,c0,c2,decide_true,decide_false,not_true_eq_false,not_false_eq_true])
   skip
end Go.LX
namespace Go.LX
open Go
def incR:List UInt8→List UInt8
 | []=>[]
 | c :: r=>if c=57 then 48 :: incR r else (c+1) :: r
def decR:List UInt8→List UInt8
 | []=>[]
 | c :: r=>if c=48 then 57 :: decR r else (c - 1) :: r
def J0f (s:List UInt8):List UInt8:=(incR (48 :: s).reverse).reverse
def Jz6 (s:List UInt8):List UInt8:=(decR s.reverse).reverse
def Jr1 (n:Node) (e:Int):List UInt8:=n.s ++ List.replicate (n.e - e).toNat 48
def topR (n:Node) (above:Bool):Int:=if (n.neg != above)=false∧n.s=[49] then (n.s.length:Int)+n.e - 1 else n.s.length+n.e
def Jqv (n:Node) (above:Bool):Int:=max (topR n above - 100) (-1000)
def Jsk (n:Node) (above:Bool):List UInt8:=if (n.neg != above)=true then J0f (Jr1 n (Jqv n above)) else Jz6 (Jr1 n (Jqv n above))
def Jrs (n:Node) (above:Bool):Option Node :=
 if n.s=[] then some ⟨3,0,[],[49],!above,-1000⟩
 else if (make n.neg (Jsk n above) (Jqv n above)).2=0 then some (make n.neg (Jsk n above) (Jqv n above)).1 else none
def numC (a:Int×Node):List Node:=if a.2.kind=3 then a.2 :: ((Jrs a.2 true).toList ++ (Jrs a.2 false).toList) else []
def strC (a:Int×Node):List Node:=if a.2.kind=4 then [a.2,⟨4,0,[],a.2.s ++ [0],false,0⟩] else []
def Jum (k:Int):Node:=⟨k,0,[],[],false,0⟩
def Jqz (l:List (Int×Node)):List Node:=[Jum 0,Jum 1,Jum 2,Jum 3] ++ l.flatMap numC
def Jsu (l:List (Int×Node)):List Node:=Jqz l ++ [Jum 4] ++ l.flatMap strC
theorem J25:∀ s,(incR s).length=s.length
 | []=>rfl
 | c :: r=>by unfold incR;split <;> simp [J25 r]
theorem J2w:∀ s,(decR s).length=s.length
 | []=>rfl
 | c :: r=>by unfold decR;split <;> simp [J2w r]
theorem J7a (s:List UInt8):(J0f s).length=s.length+1:=by simp [J0f,J25]
theorem J6z (s:List UInt8):(Jz6 s).length=s.length:=by simp [Jz6,J2w]
theorem J98 {g:Bool} {s:List UInt8} {e:Int} (h:(make g s e).2=0):(make g s e).1.s.length≤100∧(make g s e).1.name=[]∧-1000≤(make g s e).1.e∧(make g s e).1.e≤1000:=by
 unfold make at h ⊢
 split
 ·rename_i h1;rw [if_pos h1] at h;cases h
 ·rename_i h1;rw [if_neg h1] at h
  split
  ·exact ⟨by simp [Js0],rfl,by simp [Js0],by simp [Js0]⟩
  ·rename_i h2;rw [if_neg h2] at h
   split
   ·rename_i h3;rw [if_pos h3] at h;cases h
   ·rename_i h3;rw [if_neg h3] at h
    split
    ·rename_i h4;rw [if_pos h4] at h;cases h
    ·rename_i h4;rw [if_neg h4] at h
     simp only at h ⊢
     split
     ·rename_i h5;rw [if_pos h5] at h;cases h
     ·rename_i h5;rw [if_neg h5] at h
      split
      ·rename_i h6;rw [if_pos h6] at h;cases h
      ·rename_i h6;rw [if_neg h6] at h
       split
       ·rename_i h7;rw [if_pos h7] at h;cases h
       ·rename_i h7
        refine ⟨by simp only;omega,rfl,by simp only;omega,by simp only;omega⟩
structure CandFit (n:Node):Prop where
 s:n.s.length≤1000
 name:n.name=[]
 e0:-1000≤n.e
 e1:n.e≤1000
theorem Jya {n m:Node} {a:Bool} (h:Jrs n a=some m):CandFit m:=by
 unfold Jrs at h
 split at h
 ·cases h;exact ⟨by simp,rfl,by simp,by simp⟩
 ·split at h
  ·rename_i h2
   cases h
   obtain ⟨g1,g2,g3,g4⟩:=J98 h2
   exact ⟨by omega,g2,g3,g4⟩
  ·cases h
theorem J9o {l:List (Int×Node)} (hl:∀ a∈l,CandFit a.2∧a.2.s.length≤500) {n:Node} (h:n∈Jsu l):CandFit n:=by
 have hb:∀ k,CandFit (Jum k):=fun k=>⟨by simp [Jum],rfl,by simp [Jum],by simp [Jum]⟩
 simp only [Jsu,Jqz,List.mem_append,List.mem_cons,List.not_mem_nil,or_false,List.mem_flatMap] at h
 rcases h with (((rfl | rfl | rfl | rfl) | ⟨a,ha,h⟩) | rfl) | ⟨a,ha,h⟩
 ·exact hb 0
 ·exact hb 1
 ·exact hb 2
 ·exact hb 3
 ·unfold numC at h
  split at h
  ·simp only [List.mem_cons,List.mem_append,Option.mem_toList] at h
   rcases h with rfl | h | h
   ·exact (hl a ha).1
   ·exact Jya h
   ·exact Jya h
  ·cases h
 ·exact hb 4
 ·unfold strC at h
  split at h
  ·simp only [List.mem_cons,List.not_mem_nil,or_false] at h
   rcases h with rfl | rfl
   ·exact (hl a ha).1
   ·have:=(hl a ha).2
    exact ⟨by simp;omega,rfl,by simp,by simp⟩
  ·cases h
end Go.LX
namespace Go.LX
open Go Go.Proofs Go.RowKit
structure BytesOwn (w wr:World) (l:List UInt8):Prop where
 below:Below w.heap.size w wr
 cell:∀ (k:Nat) (c:UInt8),l[k]? = some c→wr.cell? ⟨w.heap.size,k,none⟩=some (.int .u8 (c.toNat:Int))
 soft:∀ k,k<l.length→wr.frozen? ⟨w.heap.size,k,none⟩=false
theorem BytesOwn.init (w:World) (e:TypeId) (s:ByteArray):BytesOwn w (Lib.bytesWorld w e s) s.data.toList where
 below:=Lib.bytesWorld_below w e s
 cell k c hk:=by
  have hlt:=(List.getElem?_eq_some_iff.1 hk).1
  rw [Lib.bytesWorld_cell w e s k (by simpa using hlt)]
  simp only [List.getD,hk,Option.getD_some]
 soft k hk:=by
  simp only [World.frozen?,Lib.bytesWorld_at_new]
  have:k<(Lib.bytesCells w e s).size:=by
   simp only [Lib.bytesCells,Array.size_append,Array.size_map]
   have:k<s.data.size:=by simpa using hk
   omega
  simp;omega
theorem BytesOwn.set {w wr:World} {l:List UInt8} (h:BytesOwn w wr l) {k:Nat} (hk:k<l.length) (c:UInt8) (v:Int) (hv:v=(c.toNat:Int)):BytesOwn w (wr.setCell ⟨w.heap.size,k,none⟩ (.int .u8 v)) (l.set k c) where
 below:=h.below.setCell (Nat.le_refl _) _
 cell i d hi:=by
  subst hv
  by_cases hik:i=k
  ·subst hik
   rw [List.getElem?_set_self hk] at hi
   cases hi
   exact World.cell?_setCell_same _ _ _ (h.cell i l[i] (List.getElem?_eq_getElem hk))
  ·rw [List.getElem?_set_ne (Ne.symm hik)] at hi
   rw [World.cell?_setCell_other _ _ _ _ (by intro e;cases e;exact hik rfl)]
   exact h.cell i d hi
 soft i hi:=by
  rw [World.frozen?_setCell]
  exact h.soft i (by simpa using hi)
theorem BytesOwn.bytes {w wr:World} {l:List UInt8} (h:BytesOwn w wr l):Lib.Bytes wr w.heap.size 0 ⟨l.toArray⟩:=by
 intro i hi
 have hi':i<l.length:=hi
 rw [Nat.zero_add]
 exact h.cell i l[i] (List.getElem?_eq_getElem hi')
def Jqi (x y:UInt8) (pre:List UInt8) (c:UInt8) (j r:Nat):List UInt8:=pre ++ c :: (List.replicate (r - j) x ++ List.replicate j y)
theorem Jw7 {x y:UInt8} {pre:List UInt8} {c:UInt8} {j r k:Nat} (hk:k+j=pre.length+r) (hj:j<r):(Jqi x y pre c j r)[k]? = some x:=by
 unfold Jqi
 obtain ⟨m,rfl⟩:∃ m,k=pre.length+(m+1):=⟨k - pre.length - 1,by omega⟩
 rw [List.getElem?_append_right (by omega),Nat.add_sub_cancel_left,List.getElem?_cons_succ,List.getElem?_append_left (by rw [List.length_replicate];omega),List.getElem?_replicate,if_pos (by omega)]
theorem Jyk {x y:UInt8} {pre:List UInt8} {c:UInt8} {j r k:Nat} (hk:k+j=pre.length+r) (hj:j<r):(Jqi x y pre c j r).set k y=Jqi x y pre c (j+1) r:=by
 unfold Jqi
 obtain ⟨m,rfl⟩:∃ m,k=pre.length+(m+1):=⟨k - pre.length - 1,by omega⟩
 rw [List.set_append_right _ _ (by omega),Nat.add_sub_cancel_left,List.set_cons_succ]
 congr 2
 obtain rfl:m=r - (j+1):=by omega
 rw [show r - j=(r - (j+1))+1 by omega,List.replicate_succ',List.append_assoc,List.set_append_right _ _ (by simp),List.length_replicate,Nat.sub_self,List.replicate_succ]
 rfl
theorem Jxm {x y:UInt8} {pre:List UInt8} {c:UInt8} {r:Nat}:(Jqi x y pre c r r)[pre.length]? = some c:=by
 unfold Jqi;simp
theorem Jyr {x y:UInt8} {pre:List UInt8} {c d:UInt8} {r:Nat}:(Jqi x y pre c r r).set pre.length d=Jqi x y pre d r r:=by
 unfold Jqi;simp
set_option maxHeartbeats 1000000 in
set_option maxRecDepth 100000 in
theorem J7w (s:ByteArray) (w:World) (pre:List UInt8) (c:UInt8) (r:Nat) (hs:s.data.toList=Jqi 48 57 pre c 0 r) (hc:c≠48) (h0:1≤c.toNat) (hl:s.size≤100000) :
  Calls Tryz.prog 319 #[.string s] w fun e w'=>e=.returned (.string ⟨(Jqi 48 57 pre (c - 1) r r).toArray⟩)∧Below w.heap.size w w':=by
 have hlen:s.size=pre.length+1+r:=by
  have:=congrArg List.length hs
  simp [Jqi] at this
  have h2:s.size=s.data.size:=rfl
  omega
 have hO:BytesOwn w (Lib.bytesWorld w 5 s) (Jqi 48 57 pre c 0 r):=hs ▸ BytesOwn.init w 5 s
 have hcv:=Lib.run_convert_string_bytes (P:=Tryz.prog) w 9 165 5 s (u:=.string) Tryz.underlying9 Tryz.underlying165 Tryz.underlying5
 obtain ⟨W1,hW1⟩:∃ W1,W1=Lib.bytesWorld w 5 s:=⟨_,rfl⟩
 obtain ⟨C1,hC1⟩:∃ C1,C1=grownCap w s.size 0 5:=⟨_,rfl⟩
 rw [← hW1,← hC1] at hcv
 rw [← hW1] at hO
 have HO:Hid (BytesOwn w W1 (Jqi 48 57 pre c 0 r)):=hO
 have HL:Hid (s.size=pre.length+1+r):=hlen
 have HS:Hid (s.data.toList=Jqi 48 57 pre c 0 r):=hs
 clear hO hlen hs hW1 hC1
 go_enter Tryz.func319,Tryz.ntmps319
 go_wp2
 go_loopw [4] (fun vi wr=>∃ (k j:Nat),vi=.int .i64 (k:Int)∧Hid (k+j=pre.length+r∧j≤r)∧Hid (BytesOwn w wr (Jqi 48 57 pre c j r))) (fun vi _=>(RowKit.intOf vi).toNat)
 case atStart=>exact ⟨pre.length+r,0,congrArg (Value.int .i64) (by have:=HL.out;omega),⟨by omega,by omega⟩,HO⟩
 case round =>
  obtain ⟨k,j,rfl,hkj,hO⟩:=hrel
  have hk:k<s.size:=by have:=hkj.out;have:=HL.out;omega
  have hlen:(Jqi 48 57 pre c j r).length=pre.length+1+r:=by have:=hkj.out;simp [Jqi];omega
  by_cases hjr:j<r
  ·have hget:(Jqi 48 57 pre c j r)[k]? = some 48:=Jw7 (by have:=hkj.out;omega) hjr
   have hset:(Jqi 48 57 pre c j r).set k 57=Jqi 48 57 pre c (j+1) r:=Jyk (by have:=hkj.out;omega) hjr
   have hcl:=hO.out.cell k 48 hget
   have hcl:wr.cell? ⟨w.heap.size,k,none⟩=some (.int .u8 48):=hcl
   have hfz:=hO.out.soft k (by have:=hkj.out;omega)
   have HN:Hid (BytesOwn w (wr.setCell ⟨w.heap.size,k,none⟩ (.int .u8 57)) (Jqi 48 57 pre c (j+1) r)):=hset ▸ hO.out.set (by have:=hkj.out;omega) 57 57 rfl
   have hk1:1≤k:=by have:=hkj.out;omega
   clear hget hset hlen
   go_wp2
   go_roundw
   case rel=>exact ⟨k - 1,j+1,congrArg (Value.int .i64) (by omega),⟨by have:=hkj.out;omega,by omega⟩,HN⟩
   case measure=>simp [RowKit.intOf];omega
  ·have hj:j=r:=by have:=hkj.out;omega
   subst hj
   have hkp:k=pre.length:=by have:=hkj.out;omega
   subst hkp
   have hcl:wr.cell? ⟨w.heap.size,pre.length,none⟩=some (.int .u8 (c.toNat:Int)):=hO.out.cell _ c Jxm
   have hfz:=hO.out.soft pre.length (by omega)
   have hc1:¬ (c.toNat:Int)=48:=fun h=>hc (UInt8.toNat_inj.1 (by
                                       have:c.toNat=48:=by omega
                                       rw [this];rfl))
   have hsub:((c.toNat:Int) - 1)=((c - 1).toNat:Int):=by
    have:=UInt8.toNat_sub_of_le c 1 (UInt8.le_iff_toNat_le.2 h0)
    rw [this];show _=((c.toNat - 1:Nat):Int);omega
   have hlt:(c.toNat:Int)≤255:=by have:=c.toNat_lt;omega
   have hge:(1:Int)≤(c.toNat:Int):=by omega
   have HN:BytesOwn w (wr.setCell ⟨w.heap.size,pre.length,none⟩ (.int .u8 ((c.toNat:Int) - 1))) (Jqi 48 57 pre (c - 1) j j):=Jyr (d:=c - 1) ▸ hO.out.set (by omega) (c - 1) _ hsub
   have hend:=Lib.run_convert_whole (P:=Tryz.prog) (wr.setCell ⟨w.heap.size,pre.length,none⟩ (.int .u8 ((c.toNat:Int) - 1))) 165 5 9 Tryz.underlying165 Tryz.underlying5 Tryz.underlying9 w.heap.size 0 _ HN.bytes C1
   have hsz:(⟨(Jqi 48 57 pre (c - 1) j j).toArray⟩:ByteArray).size=s.size:=by
    show (Jqi 48 57 pre (c - 1) j j).length=_
    have:=HL.out
    simp [Jqi];omega
   rw [hsz] at hend
   have HB:Hid (Below w.heap.size w (wr.setCell ⟨w.heap.size,pre.length,none⟩ (.int .u8 ((c.toNat:Int) - 1)))):=HN.below
   clear HN hsub hsz hlen hc h0
   obtain ⟨n,hn⟩:∃ n:Int,n=(c.toNat:Int):=⟨_,rfl⟩
   rw [← hn] at hcl hc1 hend hlt hge HB
   clear hn
   generalize pre.length=p at *
   go_wp2
   go_ret
   exact ⟨rfl,HB⟩
set_option maxHeartbeats 1000000 in
set_option maxRecDepth 100000 in
theorem J96 (s:ByteArray) (w:World) (pre:List UInt8) (c:UInt8) (r:Nat) (hs:48 :: s.data.toList=Jqi 57 48 pre c 0 r) (hc:c≠57) (h0:c.toNat≤254) (hl:s.size≤100000) :
  Calls Tryz.prog 318 #[.string s] w fun e w'=>e=.returned (.string ⟨(Jqi 57 48 pre (c+1) r r).toArray⟩)∧Below w.heap.size w w':=by
 have hlen:1+s.size=pre.length+1+r:=by
  have:=congrArg List.length hs
  simp [Jqi] at this
  have h2:s.size=s.data.size:=rfl
  omega
 have hsT:(({ data:=#[48] }:ByteArray) ++ s).data.toList=Jqi 57 48 pre c 0 r:=by
  rw [← hs];simp [ByteArray.data_append]
 have hsize:(({ data:=#[48] }:ByteArray) ++ s).size=1+s.size:=by rw [ByteArray.size_append];rfl
 have hO:BytesOwn w (Lib.bytesWorld w 5 ({ data:=#[48] } ++ s)) (Jqi 57 48 pre c 0 r):=by have h:=BytesOwn.init w 5 ({ data:=#[48] } ++ s);rw [hsT] at h;exact h
 have hcv:=Lib.run_convert_string_bytes (P:=Tryz.prog) w 9 165 5 ({ data:=#[48] } ++ s) (u:=.string) Tryz.underlying9 Tryz.underlying165 Tryz.underlying5
 rw [hsize] at hcv
 obtain ⟨W1,hW1⟩:∃ W1,W1=Lib.bytesWorld w 5 ({ data:=#[48] } ++ s):=⟨_,rfl⟩
 obtain ⟨C1,hC1⟩:∃ C1,C1=grownCap w (1+s.size) 0 5:=⟨_,rfl⟩
 rw [← hW1,← hC1] at hcv
 rw [← hW1] at hO
 have HO:Hid (BytesOwn w W1 (Jqi 57 48 pre c 0 r)):=hO
 have HL:Hid (1+s.size=pre.length+1+r):=hlen
 clear hO hlen hs hsT hsize hW1 hC1
 go_enter Tryz.func318,Tryz.ntmps318
 go_wp2
 go_loopw [4] (fun vi wr=>∃ (k j:Nat),vi=.int .i64 (k:Int)∧Hid (k+j=pre.length+r∧j≤r)∧Hid (BytesOwn w wr (Jqi 57 48 pre c j r))) (fun vi _=>(RowKit.intOf vi).toNat)
 case atStart=>exact ⟨pre.length+r,0,congrArg (Value.int .i64) (by have:=HL.out;omega),⟨by omega,by omega⟩,HO⟩
 case round =>
  obtain ⟨k,j,rfl,hkj,hO⟩:=hrel
  have hk:k<1+s.size:=by have:=hkj.out;have:=HL.out;omega
  have hlen:(Jqi 57 48 pre c j r).length=pre.length+1+r:=by have:=hkj.out;simp [Jqi];omega
  by_cases hjr:j<r
  ·have hget:(Jqi 57 48 pre c j r)[k]? = some 57:=Jw7 (by have:=hkj.out;omega) hjr
   have hset:(Jqi 57 48 pre c j r).set k 48=Jqi 57 48 pre c (j+1) r:=Jyk (by have:=hkj.out;omega) hjr
   have hcl:=hO.out.cell k 57 hget
   have hcl:wr.cell? ⟨w.heap.size,k,none⟩=some (.int .u8 57):=hcl
   have hfz:=hO.out.soft k (by have:=hkj.out;omega)
   have HN:Hid (BytesOwn w (wr.setCell ⟨w.heap.size,k,none⟩ (.int .u8 48)) (Jqi 57 48 pre c (j+1) r)):=hset ▸ hO.out.set (by have:=hkj.out;omega) 48 48 rfl
   have hk1:1≤k:=by have:=hkj.out;omega
   clear hget hset hlen
   go_wp2
   go_roundw
   case rel=>exact ⟨k - 1,j+1,congrArg (Value.int .i64) (by omega),⟨by have:=hkj.out;omega,by omega⟩,HN⟩
   case measure=>simp [RowKit.intOf];omega
  ·have hj:j=r:=by have:=hkj.out;omega
   subst hj
   have hkp:k=pre.length:=by have:=hkj.out;omega
   subst hkp
   have hcl:wr.cell? ⟨w.heap.size,pre.length,none⟩=some (.int .u8 (c.toNat:Int)):=hO.out.cell _ c Jxm
   have hfz:=hO.out.soft pre.length (by omega)
   have hc1:¬ (c.toNat:Int)=57:=fun h=>hc (UInt8.toNat_inj.1 (by
                                       have:c.toNat=57:=by omega
                                       rw [this];rfl))
   have hsub:((c.toNat:Int)+1)=((c+1).toNat:Int):=by
    rw [UInt8.toNat_add];show _=(((c.toNat+1) % 256:Nat):Int);omega
   have hlt:(c.toNat:Int)≤254:=by omega
   have hge:(0:Int)≤(c.toNat:Int):=by omega
   have HN:BytesOwn w (wr.setCell ⟨w.heap.size,pre.length,none⟩ (.int .u8 ((c.toNat:Int)+1))) (Jqi 57 48 pre (c+1) j j):=Jyr (d:=c+1) ▸ hO.out.set (by omega) (c+1) _ hsub
   have hend:=Lib.run_convert_whole (P:=Tryz.prog) (wr.setCell ⟨w.heap.size,pre.length,none⟩ (.int .u8 ((c.toNat:Int)+1))) 165 5 9 Tryz.underlying165 Tryz.underlying5 Tryz.underlying9 w.heap.size 0 _ HN.bytes C1
   have hsz:(⟨(Jqi 57 48 pre (c+1) j j).toArray⟩:ByteArray).size=1+s.size:=by
    show (Jqi 57 48 pre (c+1) j j).length=_
    have:=HL.out
    simp [Jqi];omega
   rw [hsz] at hend
   have HB:Hid (Below w.heap.size w (wr.setCell ⟨w.heap.size,pre.length,none⟩ (.int .u8 ((c.toNat:Int)+1)))):=HN.below
   clear HN hsub hsz hlen hc h0
   obtain ⟨n,hn⟩:∃ n:Int,n=(c.toNat:Int):=⟨_,rfl⟩
   rw [← hn] at hcl hc1 hend hlt hge HB
   clear hn
   generalize pre.length=p at *
   go_wp2
   go_ret
   exact ⟨rfl,HB⟩
end Go.LX
namespace Go.LX
open Go
theorem Jvd (x y:UInt8) (f:UInt8→UInt8) (g:List UInt8→List UInt8) (h0:g []=[]) (h1:∀ c r,g (c :: r)=if c=x then y :: g r else f c :: r) :
  ∀ l:List UInt8,(∃ c∈l,c≠x)→∃ pre c r,l.reverse=Jqi x y pre c 0 r∧c≠x∧c∈l∧(g l).reverse=Jqi x y pre (f c) r r
 | [],⟨_,h,_⟩=>by simp at h
 | a :: t,⟨d,hd,hx⟩=>by
  by_cases ha:a=x
  ·subst ha
   have hd':d∈t:=by
    rcases List.mem_cons.1 hd with h | h
    ·exact absurd h hx
    ·exact h
   obtain ⟨pre,c,r,e1,e2,e3,e4⟩:=Jvd a y f g h0 h1 t ⟨d,hd',hx⟩
   refine ⟨pre,c,r+1,?_,e2,List.mem_cons_of_mem _ e3,?_⟩
   ·rw [List.reverse_cons,e1]
    simp [Jqi,List.replicate_succ']
   ·rw [h1,if_pos rfl,List.reverse_cons,e4]
    simp [Jqi,List.replicate_succ']
  ·refine ⟨t.reverse,a,0,by simp [Jqi],ha,by simp,?_⟩
   rw [h1,if_neg ha]
   simp [Jqi]
theorem J32 (s:List UInt8) (h:∃ c∈s,c≠48):∃ pre c r,s=Jqi 48 57 pre c 0 r∧c≠48∧c∈s∧Jz6 s=Jqi 48 57 pre (c - 1) r r:=by
 obtain ⟨d,hd,hx⟩:=h
 obtain ⟨pre,c,r,h1,h2,h3,h4⟩:=Jvd 48 57 (fun c=>c - 1) decR rfl (fun _ _=>rfl) s.reverse ⟨d,by simpa using hd,hx⟩
 exact ⟨pre,c,r,by simpa using h1,h2,by simpa using h3,h4⟩
theorem J4a (s:List UInt8):∃ pre c r,48 :: s=Jqi 57 48 pre c 0 r∧c≠57∧c∈48 :: s∧J0f s=Jqi 57 48 pre (c+1) r r:=by
 obtain ⟨pre,c,r,h1,h2,h3,h4⟩:=Jvd 57 48 (fun c=>c+1) incR rfl (fun _ _=>rfl) (48 :: s).reverse ⟨48,by simp,by decide⟩
 exact ⟨pre,c,r,by simpa using h1,h2,List.mem_reverse.1 h3,h4⟩
end Go.LX
