/- Filters that are right, the document's answer. -/
import Derived.Test.YtaghbedfogiopaaGreatDoorHxK
import Derived.Shelf.Sort.Plain
import Derived.Shelf.Slices.In.SortNone
set_option linter.unusedSimpArgs false
set_option linter.unusedVariables false
set_option linter.unusedSectionVars false
set_option linter.unnecessarySimpa false
set_option maxRecDepth 100000
set_option maxHeartbeats 2000000
namespace Go.LX
open Go Go.RowKit Go.Proofs Go.Proofs.Tryz
attribute [local irreducible] Al SWP Bi
theorem J90 (k m:Int) (nm s:List UInt8) (n:Int) (c:Node):Det cx 81 [.p (.agg [.int .i64 k,.int .i64 m,.str nm,.str s,.int .i64 n,.int .i64 c.kind,.int .i64 c.many,.str c.name,.str c.s,.bool c.neg,.int .i64 c.e]) ] [] (.p (.bool (decide (Jrm k)))) []:=by
 by_cases h1:16<=k
 ·have c1:=eq_true h1;by_cases h2:k<=19
  ·have c2:=eq_true h2;rw[show decide (Jrm k)=true from decide_eq_true ⟨h1,h2⟩];(refine bgo func81 ?_;simp only[go_sem,simprocAttr,c1,c2,decide_true])
   skip
  ·have c2:=eq_false h2;rw[show decide (Jrm k)=false from decide_eq_false fun h=>h2 h.2];(refine bgo func81 ?_;simp only[go_sem,simprocAttr,c1,c2,decide_true,decide_false])
   skip
 ·have c1:=eq_false h1;rw[show decide (Jrm k)=false from decide_eq_false fun h=>h1 h.1];(refine bgo func81 ?_;simp only[go_sem,simprocAttr,c1,decide_false])
  skip
def Jrt (i:Nat) (l:List RKT) (q:Nat):Nat:=i+1+(rfL (l.take q)).enc.length
theorem J2s (i:Nat) (l:List RKT):Jrt i l 0=i+1:=by unfold Jrt;rw[Eb4,rfL,Jsd];rfl
theorem Jx9 {i:Nat} {l:List RKT} {q:Nat} {p:RKT} (h:l[q]? = some p):Jrt i l (q+1)=Jrt i l q+(p.2.enc p.1).length:=by
 unfold Jrt;rw[Js7,Js7,Ebh,h,Option.toList_some,List.flatMap_append,Eac];simp;omega
theorem Jt5:∀ f:RF,rfL f.list=f
 | .nil=>rfl
 | .cons nm t r=>by rw[RF.list,rfL,Jt5 r]
theorem J74 {v:List YRow} {i:Nat} {y:YRow} {kids:RF} {rest:List YRow} (h:v.drop i=y :: (kids.enc ++ rest)) {q:Nat} (hq:q<=kids.list.length):v.drop (Jrt i kids.list q)=(rfL (kids.list.drop q)).enc ++ rest:=by
 unfold Jrt;have e1:kids.enc=(rfL (kids.list.take q)).enc ++ (rfL (kids.list.drop q)).enc:=by
  rw[Js7,Js7,<- List.flatMap_append,Eb0,<- Js7,Jt5]
 rw[<- Ea7,<- Ea7,h,Eb7,Ebw,e1,Ea2,Ecm]
theorem Jyq {v:List YRow} {i:Nat} {y:YRow} {kids:RF} {rest:List YRow} (h:v.drop i=y :: (kids.enc ++ rest)) {q:Nat} {p:RKT} (hp:kids.list[q]? = some p):v.drop (Jrt i kids.list q)=p.2.enc p.1 ++ ((rfL (kids.list.drop (q+1))).enc ++ rest):=by
 have hq:=(Eab.1 hp).1;rw[J74 h omg,Eax hq];have:kids.list[q]=p:=(Eab.1 hp).2;rw[this,rfL,Jqv,Ea2]
theorem J79 {v:List YRow} {i:Nat} {y:YRow} {kids:RF} {rest:List YRow} (h:v.drop i=y :: (kids.enc ++ rest)) {q:Nat} {p:RKT} (hp:kids.list[q]? = some p):Jrt i kids.list q+(p.2.enc p.1).length<=v.length:=by
 have h1:=Jyq h hp;have h2:=congrArg List.length h1;have h3:=Jsi p.2 p.1;rw[Ebd,Eac] at h2;omega
theorem Kau {i:Nat} {l:List RKT} {q r:Nat} (h:q<r) (hr:r<=l.length):Jrt i l q<Jrt i l r:=by
 induction r with
 | zero=>omega
 | succ r ih =>
  obtain ⟨p,hp⟩:∃ p,l[r]? = some p:=⟨_,Eaa omg⟩
  rw[Jx9 hp];have:=Jsi p.2 p.1;by_cases e:q=r
  ·subst e;omega
  ·have:=ih omg omg;omega
theorem d_had (v:List YRow) (i:Nat) (y:YRow) (kids:RF) (rest:List YRow) (q:Nat) (p:RKT) (hv:v.length<=850000000000) (h:v.drop i=y :: (kids.enc ++ rest)) (hp:kids.list[q]? = some p):Det cx 163 [.p (.sl (rowL v)),.p (.int .i64 i),.p (.int .i64 (Jrt i kids.list q))] [] (.p (.bool (decide (p.1∈(kids.list.take q).map (·.1))))) []:=by
 have hq:=(Eab.1 hp).1;have hlt:=J79 h hp;have h0:i+1<=Jrt i kids.list q:=by unfold Jrt;omega
 obtain ⟨k1,n1,s1,g1,e1,hgp⟩:=Jzt (Jyq h hp);have w0:=wj1 (i:=i) omg;(refine bgo func163 ?_;simp only[go_sem,simprocAttr,w0]);refine SWP.loop (fun r:Nat=>⟨Ba 27 [(0,.p (.sl (rowL v))),(1,.p (.int .i64 i)),(2,.p (.int .i64 (Jrt i kids.list q))),(7,.p (.int .i64 (Jrt i kids.list r)))],[]⟩) (fun r=>r<=q/\p.1 ∉ (kids.list.take r).map (·.1)) (fun r=>q - r) 0 (by rw[J2s];exact Jqc) ⟨Eat _,by simp⟩ ?_;rintro r ⟨hr,hn⟩;by_cases hrq:r<q
 ·have hpl:=Kau (i:=i) hrq (by omega:q<=kids.list.length);have c1:((Jrt i kids.list r:Int)<(Jrt i kids.list q:Int))=True:=eq_true omg;obtain ⟨x,hx⟩:∃ x,kids.list[r]? = some x:=⟨_,Eaa omg⟩
  have hd:=Jyq h hx;obtain ⟨k2,n2,s2,g2,e2,hgx⟩:=Jzt hd;by_cases hnm:x.1=p.1
  ·have c2:=eq_true hnm;have hin:p.1∈(kids.list.take q).map (·.1):=by
    rw[<- hnm];refine Eav.2 ⟨x,?_,rfl⟩;exact Eae (i:=r) (by rw[Eao,if_pos hrq];exact hx)
   rw[decide_eq_true hin];(refine lws ?_;simp only[go_sem,simprocAttr,c1,decide_true]);(repeat'(first|((refine Jqm ?_);simp only[go_sem,simprocAttr,hgp,c2,hgx])|fail))
  ·have c2:=eq_false hnm;have hNx:=J1f v (Jrt i kids.list r) x.1 x.2 _ hv hd;rw[<- Jx9 hx] at hNx;(refine lws ?_;simp only[go_sem,simprocAttr,c1,decide_true]);(repeat'(first|((first|refine Jqm ?_|refine Jqa hNx ?_);simp only[go_sem,simprocAttr,hgp,c2,hgx])|fail));exact ⟨r+1,⟨omg,by
    rw[Ebh,hx,Option.toList_some,Eb9,Eau];rintro (a | a)
    ·exact hn a
    ·simp at a;exact hnm a.symm⟩,omg,Jqc⟩
 ·obtain rfl:r=q:=by omega
  have c1:((Jrt i kids.list r:Int)<(Jrt i kids.list r:Int))=False:=eq_false omg;rw[decide_eq_false hn];(refine lws ?_;simp only[go_sem,simprocAttr,c1])
  skip
def Jtq (op:Int) (l:List RKT) (q:Nat) (p:RKT):Prop:=Kft op p/\(op=4->q=0->p.2.kind≠4)/\(op=8->p.1 ∉ (l.take q).map (·.1))
theorem J3t {l:List (List UInt8)}:l.Nodup ↔ ∀ q x,l[q]? = some x->x ∉ l.take q:=by
 constructor
 ·intro h q x hx hm';obtain ⟨r,hr⟩:=Ebr hm';rw[Eao] at hr;split at hr
  ·obtain ⟨a,rfl⟩:=Eab.1 hr;obtain ⟨b,hb⟩:=Eab.1 hx;exact (List.pairwise_iff_getElem.1 h) r q a b omg hb.symm
  ·cases hr
 ·intro h;refine List.pairwise_iff_getElem.2 fun i j hi hj hij e=>?_
  have hx:=Eaa hj;refine h j _ hx (Eae (i:=i) ?_);rw[Eao,if_pos hij,<- e];exact Eaa hi
theorem J5h {op:Int} {l:List RKT}:Jsy op l ↔ ∀ q p,l[q]? = some p->Jtq op l q p:=by
 unfold Jsy Jtq;constructor
 ·rintro ⟨h1,h2,h3⟩ q p hp;refine ⟨h1 p (Eae hp),fun a b=>?_,fun a=>?_⟩
  ·subst b;exact h2 a p (by rw[List.head?_eq_getElem?];exact hp)
  ·rw[Ec2];exact (J3t.1 (h3 a)) q p.1 (by simp[hp])
 ·intro h;refine ⟨fun p hp=>?_,fun a p hp=>?_,fun a=>?_⟩
  ·obtain ⟨q,hq⟩:=Ebr hp;exact (h q p hq).1
  ·exact (h 0 p (by rw[<- List.head?_eq_getElem?];exact hp)).2.1 a rfl
  ·rw[J3t];intro q x hx;rw[Eal] at hx;cases hq:l[q]? with
   | none=>rw[hq] at hx;cases hx
   | some p =>
    rw[hq] at hx;cases hx;rw[<- Ec2];exact (h q p hq).2.2 a
open Classical in
noncomputable def J0i (k:Int) (l:List RKT):Bool:=decide (Jsy k l)
theorem J8f {k:Int} {l:List RKT} (h:Jsy k l):true=J0i k l:=by unfold J0i;exact (@decide_eq_true _ (Classical.propDecidable _) h).symm
theorem J67 {k:Int} {l:List RKT} (h:¬ Jsy k l):false=J0i k l:=by unfold J0i;exact (@decide_eq_false _ (Classical.propDecidable _) h).symm
theorem Kc9 (v:List YRow) (i:Nat) (nm:List UInt8) (k:Int) (s:List UInt8) (g:Int) (e:Node) (kids:RF) (rest:List YRow) (hv:v.length<=850000000000) (h:v.drop i=(RT.mk k s g e kids).enc nm ++ rest) (hs:∀ n∈v,n.name.length<=1000000):Det cx 131 [.p (.sl (rowL v)),.p (.int .i64 i)] [] (.p (.bool (J0i k kids.list))) []:=by
 have hll:=Jq7 kids;have hkl:=Jq4 kids;rw[Jqs] at h;have hg0:=Js5 h;rw[Jr5] at hg0;have hb:=J4f h sm;simp only[Ea8,Eaf,Eac] at hb;have w0:=wj1 (i:=i) omg;have hI0:=J90 k kids.len nm s g e;(refine bgo func131 ?_;simp only[go_sem,simprocAttr,hg0,w0]);refine SWP.loop (fun q:Nat=>⟨Ba 77 [(0,.p (.sl (rowL v))),(1,.p (.int .i64 i)),(5,.ptr 5 0 0),(6,.p (.int .i64 (Jrt i kids.list q))),(7,.p (.int .i64 q))],[(5,.var 38 [.p (.int .i64 k),.p (.int .i64 kids.len),.p (.str nm),.p (.str s),.p (.int .i64 g),.p (.int .i64 e.kind),.p (.int .i64 e.many),.p (.str e.name),.p (.str e.s),.p (.bool e.neg),.p (.int .i64 e.e)])]⟩) (fun q=>q<=kids.len/\∀ r p,r<q->kids.list[r]? = some p->Jtq k kids.list r p) (fun q=>kids.len - q) 0 (by rw[J2s];exact Jqc) ⟨Eat _,fun r p hr=>by omega⟩ ?_;rintro q ⟨h1,h2⟩;by_cases hq:q<kids.len
 ·have c1:((q:Int)<(kids.len:Int))=True:=eq_true omg;obtain ⟨⟨nm',k',s',g',e',kids'⟩,hp⟩:∃ p,kids.list[q]? = some p:=⟨_,Eaa omg⟩
  have hd:=Jyq h hp;have hlt:=J79 h hp;have hpos:=Jsi (.mk k' s' g' e' kids') nm';simp only at hd hlt;have hga:(rowL v)[Jrt i kids.list q]? = some [.int .i64 k',.int .i64 kids'.len,.str nm',.str s',.int .i64 g',.int .i64 e'.kind,.int .i64 e'.many,.str e'.name,.str e'.s,.bool e'.neg,.int .i64 e'.e]:=by
   rw[Jqs] at hd;exact Js5 hd
  have hnl:nm'.length<=1000000:=by
   rw[Jqs] at hd;have hm:(⟨k',kids'.len,nm',s',g',e'⟩:YRow)∈v.drop (Jrt i kids.list q):=by rw[hd];exact Eag
   exact hs _ (Ea3 hm)
  have w1:=wj1 (i:=q) omg;have hIx:=J90 k' kids'.len nm' s' g' e';have hNx:=J1f v (Jrt i kids.list q) nm' (.mk k' s' g' e' kids') _ hv hd;rw[show Jrt i kids.list q+((RT.mk k' s' g' e' kids').enc nm').length=Jrt i kids.list (q+1) from (Jx9 hp).symm] at hNx;have hU:=Cn nm' hnl;have hH:=d_had v i ⟨k,kids.len,nm,s,g,e⟩ kids rest q (nm',.mk k' s' g' e' kids') hv h hp;simp only at hH;have hno:¬ Jtq k kids.list q (nm',.mk k' s' g' e' kids')->false=J0i k kids.list:=fun hn=>J67 fun hk=>hn (J5h.1 hk q _ hp)
  have hyes:Jtq k kids.list q (nm',.mk k' s' g' e' kids')->∀ r p,r<q+1->kids.list[r]? = some p->Jtq k kids.list r p:=fun hy r p hr hrp=>by
   by_cases e:r=q
   ·subst e;rw[hp] at hrp;cases hrp;exact hy
   ·exact h2 r p omg hrp
  by_cases hX:Jrm k'
  ·rw[decide_eq_true hX] at hIx;by_cases hY:Jrm k
   ·rw[decide_eq_true hY] at hI0;have hkd:Jrm k' ↔ Jrm k\/k=7:=⟨fun _=>.inl hY,fun _=>hX⟩
    by_cases o4:k=4
    ·have e4:=eq_true o4;have e8:(k=8)=False:=eq_false omg;by_cases q0:q=0
     ·have f0:((q:Int)=0)=True:=eq_true omg;by_cases k4:k'=4
      ·have g4:=eq_true k4;(refine lws ?_;simp only[go_sem,simprocAttr,c1,hga,decide_true]);(repeat'(first|((first|refine Jqm ?_|refine Jqb hIx ?_|refine Jqb hI0 ?_);simp only[go_sem,simprocAttr,bne_self_eq_false,e4,f0,g4])|fail))
       all_goals exact hno fun h=>h.2.1 o4 q0 k4
      ·have g4:=eq_false k4;by_cases n0:nm'=[]
       ·have fn:=eq_true n0;have hy:Jtq k kids.list q (nm',.mk k' s' g' e' kids'):=⟨⟨hkd,fun _=>n0,fun h=>absurd h omg⟩,fun _ _=>k4,fun h=>absurd h omg⟩
        (refine lws ?_;simp only[go_sem,simprocAttr,c1,hga,decide_true]);(repeat'(first|((first|refine Jqm ?_|refine Jqb hIx ?_|refine Jqb hI0 ?_|refine Jqa hNx ?_);simp only[go_sem,simprocAttr,w1,Ebf,bne_self_eq_false,e4,e8,f0,g4,fn])|fail))
        all_goals exact ⟨q+1,⟨omg,hyes hy⟩,omg,Jqc⟩
       ·have fn:=eq_false n0;(refine lws ?_;simp only[go_sem,simprocAttr,c1,hga,decide_true]);(repeat'(first|((first|refine Jqm ?_|refine Jqb hIx ?_|refine Jqb hI0 ?_);simp only[go_sem,simprocAttr,Ebf,bne_self_eq_false,e4,e8,f0,g4,fn])|fail))
        all_goals exact hno fun h=>n0 (h.1.2.1 omg)
     ·have f0:((q:Int)=0)=False:=eq_false omg;by_cases n0:nm'=[]
      ·have fn:=eq_true n0;have hy:Jtq k kids.list q (nm',.mk k' s' g' e' kids'):=⟨⟨hkd,fun _=>n0,fun h=>absurd h omg⟩,fun _ h=>absurd h q0,fun h=>absurd h omg⟩
       (refine lws ?_;simp only[go_sem,simprocAttr,c1,hga,decide_true]);(repeat'(first|((first|refine Jqm ?_|refine Jqb hIx ?_|refine Jqb hI0 ?_|refine Jqa hNx ?_);simp only[go_sem,simprocAttr,w1,Ebf,bne_self_eq_false,e4,e8,f0,fn])|fail))
       all_goals exact ⟨q+1,⟨omg,hyes hy⟩,omg,Jqc⟩
      ·have fn:=eq_false n0;(refine lws ?_;simp only[go_sem,simprocAttr,c1,hga,decide_true]);(repeat'(first|((first|refine Jqm ?_|refine Jqb hIx ?_|refine Jqb hI0 ?_);simp only[go_sem,simprocAttr,Ebf,bne_self_eq_false,e4,e8,f0,fn])|fail))
       all_goals exact hno fun h=>n0 (h.1.2.1 omg)
    ·have e4:=eq_false o4;by_cases o8:k=8
     ·have e8:=eq_true o8;cases hva:valid nm' with
      | false =>
       rw[hva] at hU;(refine lws ?_;simp only[go_sem,simprocAttr,c1,hga,decide_true]);(repeat'(first|((first|refine Jqm ?_|refine Jqb hIx ?_|refine Jqb hI0 ?_|refine Jqa hU ?_);simp only[go_sem,simprocAttr,Ec7,bne_self_eq_false,e4,e8])|fail))
       all_goals exact hno fun h=>by have:=h.1.2.2 o8;simp only at this;rw[hva] at this;cases this
      | true =>
       rw[hva] at hU;by_cases hin:nm'∈(kids.list.take q).map (·.1)
       ·rw[decide_eq_true hin] at hH;(refine lws ?_;simp only[go_sem,simprocAttr,c1,hga,decide_true]);(repeat'(first|((first|refine Jqm ?_|refine Jqb hIx ?_|refine Jqb hI0 ?_|refine Jqa hU ?_|refine Jqa hH ?_);simp only[go_sem,simprocAttr,Ebf,bne_self_eq_false,e4,e8])|fail))
        all_goals exact hno fun h=>h.2.2 o8 hin
       ·rw[decide_eq_false hin] at hH;have hy:Jtq k kids.list q (nm',.mk k' s' g' e' kids'):=⟨⟨hkd,fun h=>absurd o8 h,fun _=>hva⟩,fun h=>absurd h o4,fun _=>hin⟩
        (refine lws ?_;simp only[go_sem,simprocAttr,c1,hga,decide_true]);(repeat'(first|((first|refine Jqm ?_|refine Jqb hIx ?_|refine Jqb hI0 ?_|refine Jqa hU ?_|refine Jqa hH ?_|refine Jqa hNx ?_);simp only[go_sem,simprocAttr,w1,Ebf,bne_self_eq_false,e4,e8])|fail))
        all_goals exact ⟨q+1,⟨omg,hyes hy⟩,omg,Jqc⟩
     ·have e8:=eq_false o8;by_cases n0:nm'=[]
      ·have fn:=eq_true n0;have hy:Jtq k kids.list q (nm',.mk k' s' g' e' kids'):=⟨⟨hkd,fun _=>n0,fun h=>absurd h o8⟩,fun h=>absurd h o4,fun h=>absurd h o8⟩
       (refine lws ?_;simp only[go_sem,simprocAttr,c1,hga,decide_true]);(repeat'(first|((first|refine Jqm ?_|refine Jqb hIx ?_|refine Jqb hI0 ?_|refine Jqa hNx ?_);simp only[go_sem,simprocAttr,w1,Ebf,bne_self_eq_false,e4,e8,fn])|fail))
       all_goals exact ⟨q+1,⟨omg,hyes hy⟩,omg,Jqc⟩
      ·have fn:=eq_false n0;(refine lws ?_;simp only[go_sem,simprocAttr,c1,hga,decide_true]);(repeat'(first|((first|refine Jqm ?_|refine Jqb hIx ?_|refine Jqb hI0 ?_);simp only[go_sem,simprocAttr,Ebf,bne_self_eq_false,e4,e8,fn])|fail))
       all_goals exact hno fun h=>n0 (h.1.2.1 o8)
   ·rw[decide_eq_false hY] at hI0;by_cases o7:k=7
    ·have e7:=eq_true o7;have hkd:Jrm k' ↔ Jrm k\/k=7:=⟨fun _=>.inr o7,fun _=>hX⟩
     by_cases o4:k=4
     ·have e4:=eq_true o4;have e8:(k=8)=False:=eq_false omg;by_cases q0:q=0
      ·have f0:((q:Int)=0)=True:=eq_true omg;by_cases k4:k'=4
       ·have g4:=eq_true k4;(refine lws ?_;simp only[go_sem,simprocAttr,c1,hga,decide_true]);(repeat'(first|((first|refine Jqm ?_|refine Jqb hIx ?_|refine Jqb hI0 ?_);simp only[go_sem,simprocAttr,Ecn,Ebf,e7,e4,f0,g4])|(exfalso;omega)))
        all_goals exact hno fun h=>h.2.1 o4 q0 k4
       ·have g4:=eq_false k4;by_cases n0:nm'=[]
        ·have fn:=eq_true n0;have hy:Jtq k kids.list q (nm',.mk k' s' g' e' kids'):=⟨⟨hkd,fun _=>n0,fun h=>absurd h omg⟩,fun _ _=>k4,fun h=>absurd h omg⟩
         (refine lws ?_;simp only[go_sem,simprocAttr,c1,hga,decide_true]);(repeat'(first|((first|refine Jqm ?_|refine Jqb hIx ?_|refine Jqb hI0 ?_|refine Jqa hNx ?_);simp only[go_sem,simprocAttr,w1,Ecn,Ebf,e7,e4,e8,f0,g4,fn])|(exfalso;omega)))
         all_goals exact ⟨q+1,⟨omg,hyes hy⟩,omg,Jqc⟩
        ·have fn:=eq_false n0;(refine lws ?_;simp only[go_sem,simprocAttr,c1,hga,decide_true]);(repeat'(first|((first|refine Jqm ?_|refine Jqb hIx ?_|refine Jqb hI0 ?_);simp only[go_sem,simprocAttr,Ecn,Ebf,e7,e4,e8,f0,g4,fn])|(exfalso;omega)))
         all_goals exact hno fun h=>n0 (h.1.2.1 omg)
      ·have f0:((q:Int)=0)=False:=eq_false omg;by_cases n0:nm'=[]
       ·have fn:=eq_true n0;have hy:Jtq k kids.list q (nm',.mk k' s' g' e' kids'):=⟨⟨hkd,fun _=>n0,fun h=>absurd h omg⟩,fun _ h=>absurd h q0,fun h=>absurd h omg⟩
        (refine lws ?_;simp only[go_sem,simprocAttr,c1,hga,decide_true]);(repeat'(first|((first|refine Jqm ?_|refine Jqb hIx ?_|refine Jqb hI0 ?_|refine Jqa hNx ?_);simp only[go_sem,simprocAttr,w1,Ecn,Ebf,e7,e4,e8,f0,fn])|(exfalso;omega)))
        all_goals exact ⟨q+1,⟨omg,hyes hy⟩,omg,Jqc⟩
       ·have fn:=eq_false n0;(refine lws ?_;simp only[go_sem,simprocAttr,c1,hga,decide_true]);(repeat'(first|((first|refine Jqm ?_|refine Jqb hIx ?_|refine Jqb hI0 ?_);simp only[go_sem,simprocAttr,Ecn,Ebf,e7,e4,e8,f0,fn])|(exfalso;omega)))
        all_goals exact hno fun h=>n0 (h.1.2.1 omg)
     ·have e4:=eq_false o4;by_cases o8:k=8
      ·have e8:=eq_true o8;cases hva:valid nm' with
       | false =>
        rw[hva] at hU;(refine lws ?_;simp only[go_sem,simprocAttr,c1,hga,decide_true]);(repeat'(first|((first|refine Jqm ?_|refine Jqb hIx ?_|refine Jqb hI0 ?_|refine Jqa hU ?_);simp only[go_sem,simprocAttr,Ecn,Ebf,Ec7,e7,e4,e8])|(exfalso;omega)))
        all_goals exact hno fun h=>by have:=h.1.2.2 o8;simp only at this;rw[hva] at this;cases this
       | true =>
        rw[hva] at hU;by_cases hin:nm'∈(kids.list.take q).map (·.1)
        ·rw[decide_eq_true hin] at hH;(refine lws ?_;simp only[go_sem,simprocAttr,c1,hga,decide_true]);(repeat'(first|((first|refine Jqm ?_|refine Jqb hIx ?_|refine Jqb hI0 ?_|refine Jqa hU ?_|refine Jqa hH ?_);simp only[go_sem,simprocAttr,Ecn,Ebf,e7,e4,e8])|(exfalso;omega)))
         all_goals exact hno fun h=>h.2.2 o8 hin
        ·rw[decide_eq_false hin] at hH;have hy:Jtq k kids.list q (nm',.mk k' s' g' e' kids'):=⟨⟨hkd,fun h=>absurd o8 h,fun _=>hva⟩,fun h=>absurd h o4,fun _=>hin⟩
         (refine lws ?_;simp only[go_sem,simprocAttr,c1,hga,decide_true]);(repeat'(first|((first|refine Jqm ?_|refine Jqb hIx ?_|refine Jqb hI0 ?_|refine Jqa hU ?_|refine Jqa hH ?_|refine Jqa hNx ?_);simp only[go_sem,simprocAttr,w1,Ecn,Ebf,e7,e4,e8])|(exfalso;omega)))
         all_goals exact ⟨q+1,⟨omg,hyes hy⟩,omg,Jqc⟩
      ·have e8:=eq_false o8;by_cases n0:nm'=[]
       ·have fn:=eq_true n0;have hy:Jtq k kids.list q (nm',.mk k' s' g' e' kids'):=⟨⟨hkd,fun _=>n0,fun h=>absurd h o8⟩,fun h=>absurd h o4,fun h=>absurd h o8⟩
        (refine lws ?_;simp only[go_sem,simprocAttr,c1,hga,decide_true]);(repeat'(first|((first|refine Jqm ?_|refine Jqb hIx ?_|refine Jqb hI0 ?_|refine Jqa hNx ?_);simp only[go_sem,simprocAttr,w1,Ecn,Ebf,e7,e4,e8,fn])|fail))
        all_goals exact ⟨q+1,⟨omg,hyes hy⟩,omg,Jqc⟩
       ·have fn:=eq_false n0;(refine lws ?_;simp only[go_sem,simprocAttr,c1,hga,decide_true]);(repeat'(first|((first|refine Jqm ?_|refine Jqb hIx ?_|refine Jqb hI0 ?_);simp only[go_sem,simprocAttr,Ecn,Ebf,e7,e4,e8,fn])|fail))
        all_goals exact hno fun h=>n0 (h.1.2.1 o8)
    ·have e7:=eq_false o7;(refine lws ?_;simp only[go_sem,simprocAttr,c1,hga,decide_true]);(repeat'(first|((first|refine Jqm ?_|refine Jqb hIx ?_|refine Jqb hI0 ?_);simp only[go_sem,simprocAttr,Ecn,Ebf,e7])|fail))
     all_goals exact hno fun h=>(h.1.1.1 hX).elim hY o7
  ·rw[decide_eq_false hX] at hIx;by_cases hY:Jrm k
   ·rw[decide_eq_true hY] at hI0;(refine lws ?_;simp only[go_sem,simprocAttr,c1,hga,decide_true]);(repeat'(first|((first|refine Jqm ?_|refine Jqb hIx ?_|refine Jqb hI0 ?_);simp only[go_sem,simprocAttr,Bool.bne_true,Ec7])|fail))
    all_goals exact hno fun h=>hX (h.1.1.2 (.inl hY))
   ·rw[decide_eq_false hY] at hI0;by_cases o7:k=7
    ·have e7:=eq_true o7;(refine lws ?_;simp only[go_sem,simprocAttr,c1,hga,decide_true]);(repeat'(first|((first|refine Jqm ?_|refine Jqb hIx ?_|refine Jqb hI0 ?_);simp only[go_sem,simprocAttr,Ecf,e7])|fail))
     all_goals exact hno fun h=>hX (h.1.1.2 (.inr o7))
    ·have e7:=eq_false o7;have hkd:Jrm k' ↔ Jrm k\/k=7:=⟨fun h=>absurd h hX,fun h=>(h.elim hY o7).elim⟩
     by_cases o4:k=4
     ·have e4:=eq_true o4;have e8:(k=8)=False:=eq_false omg;by_cases q0:q=0
      ·have f0:((q:Int)=0)=True:=eq_true omg;by_cases k4:k'=4
       ·have g4:=eq_true k4;(refine lws ?_;simp only[go_sem,simprocAttr,c1,hga,decide_true]);(repeat'(first|((first|refine Jqm ?_|refine Jqb hIx ?_|refine Jqb hI0 ?_);simp only[go_sem,simprocAttr,Ecf,e7,e4,f0,g4])|fail))
        all_goals exact hno fun h=>h.2.1 o4 q0 k4
       ·have g4:=eq_false k4;by_cases n0:nm'=[]
        ·have fn:=eq_true n0;have hy:Jtq k kids.list q (nm',.mk k' s' g' e' kids'):=⟨⟨hkd,fun _=>n0,fun h=>absurd h omg⟩,fun _ _=>k4,fun h=>absurd h omg⟩
         (refine lws ?_;simp only[go_sem,simprocAttr,c1,hga,decide_true]);(repeat'(first|((first|refine Jqm ?_|refine Jqb hIx ?_|refine Jqb hI0 ?_|refine Jqa hNx ?_);simp only[go_sem,simprocAttr,w1,Ecf,Ebf,e7,e4,e8,f0,g4,fn])|fail))
         all_goals exact ⟨q+1,⟨omg,hyes hy⟩,omg,Jqc⟩
        ·have fn:=eq_false n0;(refine lws ?_;simp only[go_sem,simprocAttr,c1,hga,decide_true]);(repeat'(first|((first|refine Jqm ?_|refine Jqb hIx ?_|refine Jqb hI0 ?_);simp only[go_sem,simprocAttr,Ecf,Ebf,e7,e4,e8,f0,g4,fn])|fail))
         all_goals exact hno fun h=>n0 (h.1.2.1 omg)
      ·have f0:((q:Int)=0)=False:=eq_false omg;by_cases n0:nm'=[]
       ·have fn:=eq_true n0;have hy:Jtq k kids.list q (nm',.mk k' s' g' e' kids'):=⟨⟨hkd,fun _=>n0,fun h=>absurd h omg⟩,fun _ h=>absurd h q0,fun h=>absurd h omg⟩
        (refine lws ?_;simp only[go_sem,simprocAttr,c1,hga,decide_true]);(repeat'(first|((first|refine Jqm ?_|refine Jqb hIx ?_|refine Jqb hI0 ?_|refine Jqa hNx ?_);simp only[go_sem,simprocAttr,w1,Ecf,Ebf,e7,e4,e8,f0,fn])|fail))
        all_goals exact ⟨q+1,⟨omg,hyes hy⟩,omg,Jqc⟩
       ·have fn:=eq_false n0;(refine lws ?_;simp only[go_sem,simprocAttr,c1,hga,decide_true]);(repeat'(first|((first|refine Jqm ?_|refine Jqb hIx ?_|refine Jqb hI0 ?_);simp only[go_sem,simprocAttr,Ecf,Ebf,e7,e4,e8,f0,fn])|fail))
        all_goals exact hno fun h=>n0 (h.1.2.1 omg)
     ·have e4:=eq_false o4;by_cases o8:k=8
      ·have e8:=eq_true o8;cases hva:valid nm' with
       | false =>
        rw[hva] at hU;(refine lws ?_;simp only[go_sem,simprocAttr,c1,hga,decide_true]);(repeat'(first|((first|refine Jqm ?_|refine Jqb hIx ?_|refine Jqb hI0 ?_|refine Jqa hU ?_);simp only[go_sem,simprocAttr,Ecf,Ec7,e7,e4,e8])|fail))
        all_goals exact hno fun h=>by have:=h.1.2.2 o8;simp only at this;rw[hva] at this;cases this
       | true =>
        rw[hva] at hU;by_cases hin:nm'∈(kids.list.take q).map (·.1)
        ·rw[decide_eq_true hin] at hH;(refine lws ?_;simp only[go_sem,simprocAttr,c1,hga,decide_true]);(repeat'(first|((first|refine Jqm ?_|refine Jqb hIx ?_|refine Jqb hI0 ?_|refine Jqa hU ?_|refine Jqa hH ?_);simp only[go_sem,simprocAttr,Ecf,Ebf,e7,e4,e8])|fail))
         all_goals exact hno fun h=>h.2.2 o8 hin
        ·rw[decide_eq_false hin] at hH;have hy:Jtq k kids.list q (nm',.mk k' s' g' e' kids'):=⟨⟨hkd,fun h=>absurd o8 h,fun _=>hva⟩,fun h=>absurd h o4,fun _=>hin⟩
         (refine lws ?_;simp only[go_sem,simprocAttr,c1,hga,decide_true]);(repeat'(first|((first|refine Jqm ?_|refine Jqb hIx ?_|refine Jqb hI0 ?_|refine Jqa hU ?_|refine Jqa hH ?_|refine Jqa hNx ?_);simp only[go_sem,simprocAttr,w1,Ecf,Ebf,e7,e4,e8])|fail))
         all_goals exact ⟨q+1,⟨omg,hyes hy⟩,omg,Jqc⟩
      ·have e8:=eq_false o8;by_cases n0:nm'=[]
       ·have fn:=eq_true n0;have hy:Jtq k kids.list q (nm',.mk k' s' g' e' kids'):=⟨⟨hkd,fun _=>n0,fun h=>absurd h o8⟩,fun h=>absurd h o4,fun h=>absurd h o8⟩
        (refine lws ?_;simp only[go_sem,simprocAttr,c1,hga,decide_true]);(repeat'(first|((first|refine Jqm ?_|refine Jqb hIx ?_|refine Jqb hI0 ?_|refine Jqa hNx ?_);simp only[go_sem,simprocAttr,w1,Ecf,Ebf,e7,e4,e8,fn])|fail))
        all_goals exact ⟨q+1,⟨omg,hyes hy⟩,omg,Jqc⟩
       ·have fn:=eq_false n0;(refine lws ?_;simp only[go_sem,simprocAttr,c1,hga,decide_true]);(repeat'(first|((first|refine Jqm ?_|refine Jqb hIx ?_|refine Jqb hI0 ?_);simp only[go_sem,simprocAttr,Ecf,Ebf,e7,e4,e8,fn])|fail))
        all_goals exact hno fun h=>n0 (h.1.2.1 o8)
 ·obtain rfl:q=kids.len:=by omega
  have c1:((kids.len:Int)<(kids.len:Int))=False:=eq_false omg;have hK:Jsy k kids.list:=J5h.2 fun r p hp=>h2 r p (by rw[<- hkl];exact (Eab.1 hp).1) hp
  (refine lws ?_;simp only[go_sem,simprocAttr,c1]);exact J8f hK
theorem Kcc (v:List YRow) (hv:v.length<=10000) (hf:∀ n∈v,RowFit n):Det cx 80 [.p (.sl (rowL v))] [] (.p (.bool (Juz v))) []:=by
 cases v with
 | nil =>
  have hb:false=Juz []:=Jva (by
   rintro ⟨t,_,h⟩;have:=congrArg List.length h;have h1:=Jsi t [];simp at this;omega)
  have c0:(((rowL []).length:Int)=0)=True:=eq_true rfl;rw[<- hb];(refine bgo func80 ?_;simp only[go_sem,simprocAttr,c0])
  skip
 | cons n r =>
  have hg0:=Jzc (v:=n :: r) (i:=0) (n:=n) rfl;have c0:(((n :: r).length:Int)=0)=False:=eq_false (by simp;omega);have hN:=J97 (n :: r) hv;generalize hvv:n :: r=v at *
  by_cases hnm:n.name=[]
  ·have c2:=eq_true hnm;by_cases hnx:Jtm v 0 1=v.length
   ·obtain ⟨nm,t,ht⟩:=J9g hnx;have htk:nm=[]:=by
     cases t with
     | mk k s g e kids =>
      rw[Jqs,<- hvv] at ht;have:=(List.cons.inj ht).1;rw[this] at hnm;exact hnm
    subst htk;have c3:(Jtm v 0 1=(v.length:Int))=True:=eq_true hnx;(refine bgo func80 ?_;simp only[go_sem,simprocAttr,Jq0,hg0,c0,c2,not_true_eq_false]);(repeat'(first|((refine Jqa hN ?_);simp only[go_sem,simprocAttr,Jq0,c3,not_true_eq_false])|fail));have hB:∀ b:Bool,(b=true ↔ okQ t)->b=Juz v:=by
     intro b hb;rw[Ea1,hb,Ju6,ht,J9l]
    refine SWP.loop (fun x:Nat×RF=>⟨Ba 39 [(0,.p (.sl (rowL v))),(3,.p (.int .i64 x.1))],[]⟩) (fun x=>v.drop x.1=x.2.enc/\x.1+x.2.enc.length=v.length/\(okQ t ↔ okQF x.2)) (fun x=>v.length - x.1) (0,.cons [] t .nil) Jqc ⟨by rw[Jqv,Jsd,Ea5,Ebw,ht],by rw[Jqv,Jsd,Ea5,ht];simp,by rw[Jvi];exact ⟨fun h=>⟨h,Jvm⟩,fun h=>h.1⟩⟩ ?_;rintro ⟨i,F⟩ ⟨h1,h2,h3⟩;simp only at h1 h2 h3
    match F,h1,h2,h3 with
    | .nil,h1,h2,h3 =>
     rw[Jsd] at h2;have c4:((i:Int)<(v.length:Int))=False:=eq_false (by simp at h2;omega);(refine lws ?_;simp only[go_sem,simprocAttr,Jq0,decide_false,c4]);exact hB true (by rw[h3];simp[Jvm])
    | .cons nm' (.mk k s g e kids) r,h1,h2,h3 =>
     rw[Jqv,Jqs] at h1 h2;simp only[Eac,Eaf] at h2;have c4:((i:Int)<(v.length:Int))=True:=eq_true omg;have hga:=Js5 h1;rw[Jr5] at hga;have w1:=wj1 (i:=i) omg;rw[Kcy] at h3;have hmem:(⟨k,kids.len,nm',s,g,e⟩:YRow)∈v:=by
      have:(⟨k,kids.len,nm',s,g,e⟩:YRow)∈v.drop i:=by rw[h1];simp
      exact Ea3 this
     have hfn:=hf _ hmem;have hpl:=Kdh k kids.len nm' s g e hfn.s hfn.c;have hri:=Kc9 v i nm' k s g e kids r.enc omg (by rw[h1,Jqs]) fun n hn=>(hf n hn).name
     by_cases hn1:Jqq k s g e kids.len
     ·rw[decide_eq_true hn1] at hpl;by_cases hk1:Jsy k kids.list
      ·rw[<- J8f hk1] at hri;(refine lws ?_;simp only[go_sem,simprocAttr,Jq0,decide_true,c4,hga,decide_true]);(repeat'(first|((first|refine Jqa hpl ?_|refine Jqa hri ?_);simp only[go_sem,simprocAttr,w1,Ebf])|fail));refine ⟨(i+1,kids.app r),⟨?_,?_,h3.trans ⟨fun h=>h.2.2,fun h=>⟨hn1,hk1,h⟩⟩⟩,?_,Jqc⟩
       ·simp only;rw[<- Ea7,h1,Jq6];rfl
       ·simp only;rw[Jq6,Eac];omega
       ·simp only;omega
      ·rw[<- J67 hk1] at hri;(refine lws ?_;simp only[go_sem,simprocAttr,Jq0,decide_true,c4,hga,decide_true]);(repeat'(first|((first|refine Jqa hpl ?_|refine Jqa hri ?_);simp only[go_sem,simprocAttr,Ebf,Ec7])|fail));exact hB false (by rw[h3];simp[hk1])
     ·rw[decide_eq_false hn1] at hpl;(refine lws ?_;simp only[go_sem,simprocAttr,Jq0,decide_true,c4,hga,decide_true]);(repeat'(first|((refine Jqa hpl ?_);simp only[go_sem,simprocAttr,Ec7])|fail));exact hB false (by rw[h3];simp[hn1])
   ·have c3:(Jtm v 0 1=(v.length:Int))=False:=eq_false hnx;have hb:=Jva (v:=v) (fun h=>hnx (J8s h));rw[<- hb];(refine bgo func80 ?_;simp only[go_sem,simprocAttr,Jq0,hg0,c0,c2,not_true_eq_false]);(repeat'(first|((refine Jqa hN ?_);simp only[go_sem,simprocAttr,Jq0,c3,not_false_eq_true])|fail))
  ·have c2:=eq_false hnm;have hb:=Jva (v:=v) (by
    rintro ⟨t,_,h⟩;cases t with
    | mk k s g e kids =>
     rw[Jqs,<- hvv] at h;have:=(List.cons.inj h).1;rw[this] at hnm;exact hnm rfl)
   rw[<- hb];(refine bgo func80 ?_;simp only[go_sem,simprocAttr,Jq0,hg0,c0,c2,not_false_eq_true])
   skip
theorem Kbs (v:List YRow) (hv:v.length<=10000) (hf:∀ n∈v,RowFit n):Det cx 28 [.p (.sl (rowL v))] [] (.p (.bool (Jtz v))) []:=by
 have hW:=Kcc v hv hf;cases hb:Juz v with
 | false =>
  have:false=Jtz v:=Jxy fun ⟨t,h1,_,h3⟩=>by
   rw[Ju6.2 ⟨t,h1,h3⟩] at hb;cases hb
  rw[hb] at hW;rw[<- this];(refine bgo func28 ?_;simp only[go_sem,simprocAttr]);(repeat'(first|((refine Jqa hW ?_);simp only[go_sem,simprocAttr])|fail))
 | true =>
  obtain ⟨⟨k,s,n,c,kids⟩,ht,rfl⟩:=Ju6.1 hb;rw[hb] at hW;have hI:=J90 k kids.len [] s n c;have hg0:(rowL ((RT.mk k s n c kids).enc []))[0]? = some [.int .i64 k,.int .i64 kids.len,.str [],.str s,.int .i64 n,.int .i64 c.kind,.int .i64 c.many,.str c.name,.str c.s,.bool c.neg,.int .i64 c.e]:=by rw[Jqs];rfl
  by_cases hc:Jrm k
  ·have:false=Jtz ((RT.mk k s n c kids).enc []):=Jxy fun h=>(J3e.1 h).2 hc
   rw[decide_eq_true hc] at hI;rw[<- this];generalize rowL ((RT.mk k s n c kids).enc [])=rows at *
   (refine bgo func28 ?_;simp only[go_sem,simprocAttr]);(repeat'(first|((first|refine Jqa hW ?_|refine Jqa hI ?_);simp only[go_sem,simprocAttr,hg0,Ebf])|fail))
  ·have:Jtz ((RT.mk k s n c kids).enc [])=true:=Jwr.2 (J3e.2 ⟨ht,hc⟩);rw[decide_eq_false hc] at hI;rw[this];generalize rowL ((RT.mk k s n c kids).enc [])=rows at *
   (refine bgo func28 ?_;simp only[go_sem,simprocAttr]);(repeat'(first|((first|refine Jqa hW ?_|refine Jqa hI ?_);simp only[go_sem,simprocAttr,hg0,Ec7])|fail))
noncomputable def Jvn (v:List YRow) (m:Nat):Bool:=Jyz v m && Jtz v
theorem Kha (v:List YRow) (m:Nat) (hm':m<=1000) (hv:v.length<=9223372036854775807) (hf:∀ n∈v,ERow n):Det cx 33 [.p (.sl (rowL v)),.p (.int .i64 m)] [] (.p (.bool (Jvn v m))) []:=by
 by_cases hl:v.length<=m
 ·have c0:((m:Int)<(v.length:Int))=False:=eq_false omg;have hsh:Jyz v m=v.all shortY:=by unfold Jyz;rw[decide_eq_true hl,Bool.true_and]
  (refine bgo func33 ?_;simp only[go_sem,simprocAttr,Jq0,c0]);refine SWP.loop (fun i:Nat=>⟨Ba 44 [(0,.p (.sl (rowL v))),(1,.p (.int .i64 m)),(5,.p (.int .i64 i))],[]⟩) (fun i=>i<=v.length/\∀ r∈v.take i,shortY r=true) (fun i=>v.length - i) 0 Jqc ⟨Eat _,by simp⟩ ?_;rintro i ⟨hi,ha⟩;by_cases hlt:i<v.length
  ·have c1:((i:Int)<(v.length:Int))=True:=eq_true omg;obtain ⟨r,hr⟩:∃ r,v[i]? = some r:=⟨_,Eaa hlt⟩
   have hg:=Jzc hr;have w1:=wj1 (i:=i) omg;have hno:¬ shortY r=true->false=Jvn v m:=fun hn=>by
    have:v.all shortY=false:=by
     rw[List.all_eq_false];exact ⟨r,Eae hr,hn⟩
    unfold Jvn;rw[hsh,this];rfl
   have hsr:shortY r=true ↔ r.s.length<=100/\r.name.length<=100/\r.c.s.length<=100:=by simp[shortY]
   by_cases a1:r.s.length<=100
   ·have d1:((100:Int)<(r.s.length:Int))=False:=eq_false omg;by_cases a2:r.name.length<=100
    ·have d2:((100:Int)<(r.name.length:Int))=False:=eq_false omg;by_cases a3:r.c.s.length<=100
     ·have d3:((100:Int)<(r.c.s.length:Int))=False:=eq_false omg;(refine lws ?_;simp only[go_sem,simprocAttr,Jq0,c1,hg,w1,d1,d2,d3,decide_false]);exact ⟨i+1,⟨omg,fun x hx=>by
       rw[Ebh,hr,Option.toList_some] at hx;rcases Eau.1 hx with hx | hx
       ·exact ha x hx
       ·simp only[Eba] at hx;subst hx;exact hsr.2 ⟨a1,a2,a3⟩⟩,omg,Jqc⟩
     ·have d3:((100:Int)<(r.c.s.length:Int))=True:=eq_true omg;(refine lws ?_;simp only[go_sem,simprocAttr,Jq0,c1,hg,d1,d2,d3,decide_false,decide_true])
      all_goals exact hno fun h=>a3 (hsr.1 h).2.2
    ·have d2:((100:Int)<(r.name.length:Int))=True:=eq_true omg;(refine lws ?_;simp only[go_sem,simprocAttr,Jq0,c1,hg,d1,d2,decide_false,decide_true])
     all_goals exact hno fun h=>a2 (hsr.1 h).2.1
   ·have d1:((100:Int)<(r.s.length:Int))=True:=eq_true omg;(refine lws ?_;simp only[go_sem,simprocAttr,Jq0,c1,hg,d1,decide_true])
    all_goals exact hno fun h=>a1 (hsr.1 h).1
  ·obtain rfl:i=v.length:=by omega
   have c1:((v.length:Int)<(v.length:Int))=False:=eq_false omg;rw[List.take_length] at ha;have hR:=Kbs v omg (fun n hn=>by
    have h1:=ha n hn;have h2:=hf n hn;simp only[shortY,Ea6,decide_eq_true_eq] at h1;exact ⟨omg,omg,omg,h2.e0,h2.e1⟩)
   rw[show Jvn v m=Jtz v by unfold Jvn;rw[hsh,Eby.2 ha,Bool.true_and]];(refine lws ?_;simp only[go_sem,simprocAttr,Jq0,c1]);(repeat'(first|((refine Jqa hR ?_);simp only[go_sem,simprocAttr])|fail))
 ·have c0:((m:Int)<(v.length:Int))=True:=eq_true omg;rw[show Jvn v m=false by unfold Jvn Jyz;rw[decide_eq_false hl];rfl];(refine bgo func33 ?_;simp only[go_sem,simprocAttr,Jq0,c0])
  skip
end Go.LX
namespace Go.LX
open Go Go.RowKit Go.Proofs
attribute [local irreducible] Al SWP Bi
def GT (v:Tree):Prop:=okT v/\FitT v
theorem Jt9 {k:Int} {s:List UInt8} {g:Bool} {e:Int} {kids:Forest} (h:GT (.mk k s g e kids)) {p:KT} (hp:p∈kids.list):valid p.1=true/\p.1.length<=1000000/\GT p.2 :=
 ⟨(Lu.1 h.1).2.1.2.1 p hp,(Mg h.2 hp).1,Jvb h.1 hp,(Mg h.2 hp).2⟩
theorem Jtw {v:Tree} (h:GT v):∀ x∈Jqe v,GT x:=by
 obtain ⟨k,s,g,e,kids⟩:=v;intro x hx;obtain ⟨p,hp,rfl⟩:=Eav.1 hx;exact (Jt9 h hp).2.2
theorem J4s:∀ l:List Tree,(∀ x∈l,GT x)->∀ n∈(A1 (unT l)).enc,NodeFit n
 | [],_,n,hn=>by rw[show A1 (unT [])=.nil from rfl,Bl] at hn;cases hn
 | t :: l,hl,n,hn=>by
  rw[show A1 (unT (t :: l))=.cons [] t (A1 (unT l)) from rfl,A0] at hn;rcases Eau.1 hn with hn | hn
  ·exact (hl t Eag).2 n hn
  ·exact J4s l (fun x hx=>hl x (Eah _ hx)) n hn
theorem J21 (k m:Int):NodeFit ⟨k,m,[],[],false,0⟩:=⟨Eat _,Eat _,(by decide:(-9223372036854775808:Int)<=0),(by decide:(0:Int)<=9223372036854775807)⟩
theorem Jti {l:List Tree} (h:∀ x∈l,GT x):GT (Kj8 l):=by
 refine ⟨Kgc fun x hx=>(h x hx).1,fun n hn=>?_⟩;unfold Kj8 at hn;rw[A6] at hn;rcases Eam.1 hn with rfl | hn
 ·exact J21 _ _
 ·exact J4s l h n hn
theorem J49 {l:List KT} (hr:Rise l) (h:∀ p∈l,valid p.1=true/\p.1.length<=1000000/\GT p.2):GT (nd 6 l):=by
 refine ⟨Jdh.2 ⟨by simp[G3],⟨fun h=>by omega,fun p hp=>(h p hp).1,fun _=>hr⟩,fun p hp=>(h p hp).2.2.1⟩,fun n hn=>?_⟩;unfold nd at hn;rw[A6] at hn;rcases Eam.1 hn with rfl | hn
 ·exact J21 _ _
 ·exact J3m l (fun p hp=>⟨(h p hp).2.2.2,(h p hp).2.1⟩) n hn
theorem Jwp:GT nilT:=⟨J6r,fun n hn=>by
 unfold nilT at hn;rw[A6,Bl] at hn;simp only[Eam,Ebt,or_false] at hn;subst hn;exact J21 _ _⟩
theorem J6k {x:Step} {t u:Tree} (ht:GT t) (h:Jrc x t=.ok u):GT u:=by
 have hk:∀ p∈t.kids.list,GT p.2:=by
  obtain ⟨k,s,g,e,kids⟩:=t;exact fun p hp=>(Jt9 ht hp).2.2
 unfold Jrc at h;split at h
 ·cases h;exact Jwp
 ·split at h
  ·split at h
   ·cases h;cases hq:t.kids.list[x.n.toNat]? with
    | none=>exact Jwp
    | some p=>exact hk p (Eae hq)
   ·cases h
  ·split at h
   ·cases h;cases hq:Ch x.name t.kids.list with
    | none=>exact Jwp
    | some w =>
     obtain ⟨p,hp,rfl,_⟩:=Kj7 hq;exact hk p hp
   ·cases h
def preB (us:List Tree):Except Nat (List Tree)->Except Nat (List Tree)
 | .ok l=>.ok (us ++ l)
 | .error e=>.error e
def resB:Except Nat Bool->Bool
 | .ok b=>b
 | .error _=>false
def resC:Except Nat Bool->Int
 | .ok _=>0
 | .error e=>e
def Khl (f:RT):Prop:=∀ v:Tree,GT v->(v.enc []).length<=450000000000->Det cx 19 [.p (.sl (rowL (f.enc []))),.p (.sl (valL (v.enc [])))] [] (.tup [.bool (resB (Jrf f v)),.int .i64 (resC (Jrf f v))]) []
theorem Kbg {c:Node} (h:Js2 c):valL ((ndT c).enc [])=[[.int .i64 c.kind,.int .i64 c.many,.str c.name,.str c.s,.bool c.neg,.int .i64 c.e]]:=by
 obtain ⟨h1,h2,h3⟩:=h;have h4:c.many=0:=by
  unfold G3 at h3;split at h3
  ·exact h3.1
  ·split at h3
   ·exact h3.1
   ·split at h3
    ·exact h3.2.1
    ·split at h3
     ·omega
     ·exact h3.elim
 unfold ndT;rw[A6,Bl,h2,h4];rfl
theorem Kbb (c:Node):((ndT c).enc []).length=1:=by unfold ndT;rw[A6,Bl];rfl
theorem Jya {p:RKT} {kids:RF} (hp:p∈kids.list):(p.2.enc p.1).length<=kids.enc.length:=by
 rw[<- Jt5 kids,Js7];have:∀ l:List RKT,p∈l->(p.2.enc p.1).length<=(l.flatMap fun q=>q.2.enc q.1).length:=by
  intro l
  induction l with
  | nil=>intro h;cases h
  | cons a l ih =>
   intro h;rw[List.flatMap_cons,Eac];rcases Eam.1 h with rfl | h
   ·omega
   ·have:=ih h;omega
 exact this _ hp
theorem Jvh:∀ (n:Nat) (f:RT) (v:Tree) (e:Nat),(f.enc []).length<=n->Jrf f v=.error e->e=5
 | 0,f,v,e,h,_=>by have:=Jsi f [];omega
 | n+1,.mk op s m c kids,v,e,h,hh=>by
  rw[Jqs,Eaf] at h;rw[Jwx] at hh;have hkid:∀ p∈kids.list,∀ v e,Jrf p.2 v=.error e->e=5:=fun p hp v e he=>by
   have hl:(p.2.enc p.1).length<=kids.enc.length:=Jya hp;rw[Jvw p.2 p.1] at hl;exact Jvh n p.2 v e omg he
  unfold J15 at hh;split at hh
  ·split at hh
   ·rename_i h1;cases hh;exact Jsp h1
   ·cases hh
  ·rw[Jtr] at hh;cases hks:kids.list with
   | nil=>rw[hks] at hh;cases hh
   | cons p r =>
    rw[hks] at hh;simp only[Eay] at hh;have hp:=hkid p (by rw[hks];exact Eag);split at hh
    ·rename_i h1;cases hh;exact hp v _ h1
    ·split at hh
     ·cases hh
     ·split at hh
      ·cases hh
      ·cases r with
       | nil=>cases hh
       | cons q r=>exact hkid q (by rw[hks];exact Eah _ Eag) v e hh
theorem Ye {n:Node}:∀ {l:List KT},n∈(A1 l).enc->∃ p∈l,n∈p.2.enc p.1
 | [],h=>by simp[A1,Bl] at h
 | p :: l,h=>by
  rw[A1,A0,Eau] at h;rcases h with h | h
  ·exact ⟨p,Eag,h⟩
  ·obtain ⟨q,h1,h2⟩:=Ye h;exact ⟨q,Eah _ h1,h2⟩
theorem Jli {k:Int} {l:List KT} (h:∀ p∈l,p.1.length<=1000000/\FitT p.2):FitT (nd k l):=by
 intro n hn;unfold nd at hn;rw[A6] at hn;rcases Eam.1 hn with rfl | hn
 ·exact ⟨by simp,by simp,by simp only;omega,by simp only;omega⟩
 ·obtain ⟨p,h1,h2⟩:=Ye hn;exact Y3 (h p h1).2 (h p h1).1 n h2
theorem Jnz {t w y:Tree} {x:Step} (hf:FitT t) (hw:Way t x w) (hy:FitT y):FitT (putT t x y):=by
 cases hw with
 | list l h hp hn hi =>
  subst h;rw[Cr hp hn];refine Jli fun p hp'=>?_
  rcases Eb2 hp' with hp' | rfl
  ·have:=Mg (k:=5) (s:=[]) (g:=false) (e:=0) (kids:=A1 l) hf (p:=p) (by rw[Ea];exact hp');exact this
  ·exact ⟨by simp,hy⟩
 | obj l h hp hr hi =>
  subst h;rw[C7 hp hr hi];refine Jli fun p hp'=>?_
  obtain ⟨q,hq,rfl⟩:=Eav.1 hp';have:=Mg (k:=6) (s:=[]) (g:=false) (e:=0) (kids:=A1 l) hf (p:=q) (by rw[Ea];exact hq);split
  ·rename_i he;exact ⟨by simp only;rw[<- he];exact this.1,hy⟩
  ·exact this
theorem Jdv:∀ {p:List Step} {t u y:Tree},okT t->okT u->FitT t->FitT u->setT p t u=.ok y->FitT y
 | [],t,u,y,_,_,_,hu,h=>by cases h;exact hu
 | x :: p,t,u,y,ht,hu,ft,fu,h=>by
  rw[setT] at h;cases hi:inT t x with
  | error e=>rw[hi] at h;cases h
  | ok w =>
   rw[hi] at h;simp only at h;have hw:=Jv ht hi;cases hz:setT p w u with
   | error e=>rw[hz] at h;cases h
   | ok z =>
    rw[hz] at h;simp only at h;cases h;exact Jnz ft hw (Jdv (Ig ht hw) hu (Ji9 ft hi) fu hz)
end Go.LX
namespace Go.LX
open Go Go.RowKit Go.Proofs Go.Proofs.Tryz
attribute [local irreducible] Al SWP Bi
structure QFit (r:YRow):Prop where
 s:r.s.length<=1000000
 name:r.name.length<=1000000
def FitQ (f:RT):Prop:=∀ r∈f.enc [],QFit r
theorem Jsj {op:Int} {s:List UInt8} {n:Int} {c:Node} {kids:RF} (h:FitQ (.mk op s n c kids)) {p:RKT} (hp:p∈kids.list):p.1.length<=1000000/\FitQ p.2:=by
 have hk:∀ r∈p.2.enc p.1,QFit r:=fun r hr=>by
  refine h r ?_;rw[Jqs,<- Jt5 kids,Js7];exact Eah _ (List.mem_flatMap.2 ⟨p,hp,hr⟩)
 obtain ⟨nm,t⟩:=p;obtain ⟨k',s',n',c',kids'⟩:=t;simp only[Jqs] at hk;refine ⟨(hk _ Eag).name,fun r hr=>?_⟩;simp only[Jqs] at hr;rcases Eam.1 hr with rfl | hr
 ·exact ⟨(hk _ Eag).s,Eat _⟩
 ·exact hk r (Eah _ hr)
theorem J5f:∀ (n:Nat) (f:RT),(f.enc []).length<=n->okQ f->Jrm f.kind->FitQ f->(f.enc []).length<=150000000000->Khl f
 | 0,f,h,_,_,_,_=>by have:=Jsi f [];omega
 | n+1,.mk op s m c kids,h,ok,hc,hf,hl=>by
  intro v hg hv;obtain ⟨h1,h2,h3⟩:=Jwl.1 ok;have hc:Jrm op:=hc;rw[Jqs,Eaf] at h hl;have hfs:s.length<=1000000:=(hf ⟨op,kids.len,[],s,m,c⟩ (by rw[Jqs];exact Eag)).s;have hg0:(rowL ((RT.mk op s m c kids).enc []))[0]? = some [.int .i64 op,.int .i64 kids.len,.str [],.str s,.int .i64 m,.int .i64 c.kind,.int .i64 c.many,.str c.name,.str c.s,.bool c.neg,.int .i64 c.e]:=by rw[Jqs];rfl
  by_cases o16:op=16
  ·subst o16;have hcp:Js2 c:=by simp[Jqq] at h1;exact h1.2.2.2.2
   have hN:=Kbg hcp;obtain ⟨hpl,hpo⟩:=Jvs s;have hP:=J1r s hfs;have hF:=Jvv (Je s).1 v omg hpo omg;have hR:Jrf (.mk 16 s m c kids) v=match Jrd (Je s).1 v with
    | .error e=>.error e
    | .ok x=>.ok (J0l m (cmpT x (ndT c))):=by
     rw[Jwx];unfold J15;rw[if_pos rfl];cases Jrd (Je s).1 v<;>rfl
   rw[hR];cases hfo:Jrd (Je s).1 v with
   | error e =>
    rw[hfo,getR] at hF;have:=Jsp hfo;subst this;simp only[resB,resC];generalize rowL ((RT.mk 16 s m c kids).enc [])=rows at *
    generalize (Je s).1=P at *
    (refine bgo func19 ?_;simp only[go_sem,simprocAttr,hg0]);(repeat'(first|((first|refine Jqa hP ?_|refine Jqa hF ?_);simp only[go_sem,simprocAttr])|fail))
    all_goals rfl
   | ok x =>
    rw[hfo,getR] at hF;have hC:=Jz3 _ x (ndT c) (Eaj _) (Jxm hg.1 hfo) (J9y hcp) (by have:=Jxh hfo;omega) (by rw[Kbb];omega);have hS:=d_Says m (cmpT x (ndT c));rw[hN] at hC;simp only[resB,resC];generalize rowL ((RT.mk 16 s m c kids).enc [])=rows at *
    generalize (Je s).1=P at *
    (refine bgo func19 ?_;simp only[go_sem,simprocAttr,hg0]);(repeat'(first|((first|refine Jqm ?_|refine Jqa hP ?_|refine Jqa hF ?_|refine Jqb hC ?_|refine Jqb hS ?_);simp only[go_sem,simprocAttr])|fail))
  ·have hkl:=Jq4 kids;have hll:=Jq7 kids;have h1m:1<=kids.len/\(op≠19->kids.len=2):=by
    obtain ⟨a,b⟩:=hc;have:op=17\/op=18\/op=19:=by omega
    rcases this with rfl | rfl | rfl<;>simp[Jqq] at h1<;>omega
   have hT:=J3g [] op s m c kids omg;have hR:Jrf (.mk op s m c kids) v=match Jrb kids with
    | []=>.ok false
    | h :: hs=>match h v with
     | .error e=>.error e
     | .ok a=>if op=19 then .ok (!a) else if a=decide (op=18) then .ok a else match hs with
      | []=>.ok false
      | h2 :: _=>h2 v:=by
     rw[Jwx];unfold J15;rw[if_neg o16];cases Jrb kids with
     | nil=>rfl
     | cons a l=>cases l<;>(simp only;cases a v<;>rfl)
   rw[Jtr] at hR;have hlen:∀ p∈kids.list,(p.2.enc []).length<=n/\(p.2.enc []).length<=150000000000:=fun p hp=>by
    have:=Jya hp;rw[Jvw p.2 p.1] at this;omega
   have hI:∀ p∈kids.list,Det cx 19 [.p (.sl (rowL (p.2.enc []))),.p (.sl (valL (v.enc [])))] [] (.tup [.bool (resB (Jrf p.2 v)),.int .i64 (resC (Jrf p.2 v))]) []:=fun p hp=>J5f n p.2 (hlen p hp).1 (Jsn.1 h3 p hp) ((h2.1 p hp).1.2 (.inl hc)) (Jsj hf hp).2 (hlen p hp).2 v hg hv
   generalize rowL ((RT.mk op s m c kids).enc [])=rows at *
   cases hks:kids.list with
   | nil=>rw[hks] at hkl;simp only[Ebe] at hkl;omega
   | cons p0 r0 =>
    have I0:=hI p0 (by rw[hks];exact Eag);have g0:(Jrk kids.list)[0]? = some [.sl (rowL (p0.2.enc []))]:=Jr8 (by rw[hks];rfl);rw[hks,Eay] at hR;simp only at hR;rw[hR];have e16:=eq_false o16;cases hh:Jrf p0.2 v with
    | error e =>
     have:=Jvh _ _ _ _ (Eaj _) hh;subst this;rw[hh] at I0;simp only[resB,resC] at I0 ⊢;(refine bgo func19 ?_;simp only[go_sem,simprocAttr,hg0,e16]);(repeat'(first|((first|refine Jqa hT ?_|refine Jqa I0 ?_);simp only[go_sem,simprocAttr,g0])|fail))
     all_goals rfl
    | ok a =>
     rw[hh] at I0;simp only[resB,resC] at I0;by_cases o19:op=19
     ·subst o19;change Det cx _ _ _ (.tup [.bool (!a),.int .i64 0]) _;(refine bgo func19 ?_;simp only[go_sem,simprocAttr,hg0]);(repeat'(first|((first|refine Jqa hT ?_|refine Jqa I0 ?_);simp only[go_sem,simprocAttr,g0])|fail))
      all_goals rfl
     ·have o78:op=17\/op=18:=by obtain ⟨x,y⟩:=hc;omega
      cases r0 with
      | nil =>
       have:=h1m.2 o19;rw[hks] at hkl;simp only[Eaf,Ebe] at hkl;omega
      | cons p1 r1 =>
       have I1:=hI p1 (by rw[hks];exact Eah _ Eag);have g1:(Jrk kids.list)[1]? = some [.sl (rowL (p1.2.enc []))]:=Jr8 (by rw[hks];rfl);rcases o78 with rfl | rfl
       ·cases a with
        | false =>
         change Det cx _ _ _ (.tup [.bool false,.int .i64 0]) _;(refine bgo func19 ?_;simp only[go_sem,simprocAttr,hg0]);(repeat'(first|((first|refine Jqa hT ?_|refine Jqa I0 ?_);simp only[go_sem,simprocAttr,g0])|fail))
         all_goals rfl
        | true =>
         change Det cx _ _ _ (.tup [.bool (resB (Jrf p1.2 v)),.int .i64 (resC (Jrf p1.2 v))]) _;(refine bgo func19 ?_;simp only[go_sem,simprocAttr,hg0]);(repeat'(first|((first|refine Jqa hT ?_|refine Jqa I0 ?_|refine Jqa I1 ?_);simp only[go_sem,simprocAttr,g0,g1])|fail))
         all_goals rfl
       ·cases a with
        | true =>
         change Det cx _ _ _ (.tup [.bool true,.int .i64 0]) _;(refine bgo func19 ?_;simp only[go_sem,simprocAttr,hg0]);(repeat'(first|((first|refine Jqa hT ?_|refine Jqa I0 ?_);simp only[go_sem,simprocAttr,g0])|fail))
         all_goals rfl
        | false =>
         change Det cx _ _ _ (.tup [.bool (resB (Jrf p1.2 v)),.int .i64 (resC (Jrf p1.2 v))]) _;(refine bgo func19 ?_;simp only[go_sem,simprocAttr,hg0]);(repeat'(first|((first|refine Jqa hT ?_|refine Jqa I0 ?_|refine Jqa I1 ?_);simp only[go_sem,simprocAttr,g0,g1])|fail))
         all_goals rfl
theorem Jz6 (n:Nat) (l:List Tree):Jqn (l.drop n)<=Jqn l:=by
 conv=>rhs;rw[<- Eb0 n l,Jtk]
 omega
theorem Jx7 (n:Nat) (l:List Tree):Jqn (l.eraseIdx n)<=Jqn l:=by
 rw[List.eraseIdx_eq_take_drop_succ,Jtk]
 conv=>rhs;rw[<- Eb0 n l,Jtk]
 have:=Jz6 1 (l.drop n);rw[Ea7] at this;omega
theorem Jy1:∀ {p:List Step} {t:Tree} {e:Nat},delT p t=.error e->e=5
 | [],t,e,h=>by rw[delT] at h;cases h
 | x :: p,t,e,h=>by
  rw[delT] at h;split at h
  ·cases h
  ·cases hi:inT t x with
   | error er =>
    rw[hi] at h;simp only at h;split at h
    ·cases h
    ·cases h;rfl
   | ok u =>
    rw[hi] at h;simp only at h;split at h
    ·cases h
    ·cases hd:delT p u with
     | error er=>rw[hd] at h;cases h;exact Jy1 hd
     | ok w=>rw[hd] at h;simp only[setT,hi] at h;cases h
theorem Khg {t u:Tree} {x:Step} (ht:GT t) (h:inT t x=.ok u):GT (J01 t x)/\((J01 t x).enc []).length<=(t.enc []).length:=by
 have hk:=Jtw ht;have hsz:=Jq1 t;obtain ⟨k,s,g,e,kids⟩:=t;cases hp:x.part with
 | true =>
  have e1:J01 (.mk k s g e kids) x=Kj8 ((Jqe (.mk k s g e kids)).eraseIdx x.n.toNat):=if_pos hp;rw[e1];refine ⟨Jti fun y hy=>hk y ((List.eraseIdx_sublist _ _).subset hy),?_⟩;rw[Jsb];have:=Jx7 x.n.toNat (Jqe (.mk k s g e kids));omega
 | false =>
  have e1:J01 (.mk k s g e kids) x=nd k (A8 x.name kids.list):=if_neg (by rw[hp];decide);rw[e1];by_cases k6:k=6
  ·subst k6;refine ⟨J49 (Rise.kept ((Lu.1 ht.1).2.1.2.2 rfl) _) fun p hp=>Jt9 ht (Jto hp).1,?_⟩;unfold nd;rw[A6,A6,Eaf,Eaf];have:=El x.name kids;omega
  ·rw[Iw hp k6] at h;cases h
theorem J30:∀ {p:List Step} {t w:Tree},GT t->delT p t=.ok w->GT w/\(w.enc []).length<=(t.enc []).length
 | [],t,w,ht,h=>by
  rw[delT] at h;cases h;refine ⟨Jwp,?_⟩;rw[Jt1];exact Et t []
 | x :: p,t,w,ht,h=>by
  rw[delT] at h;split at h
  ·cases h;exact ⟨ht,Eaj _⟩
  ·cases hi:inT t x with
   | error er =>
    rw[hi] at h;simp only at h;split at h
    ·cases h;exact ⟨ht,Eaj _⟩
    ·cases h
   | ok u =>
    rw[hi] at h;simp only at h;split at h
    ·cases h;exact Khg ht hi
    ·cases hd:delT p u with
     | error er=>rw[hd] at h;cases h
     | ok w' =>
      rw[hd] at h;simp only at h;have hu:GT u:=⟨Ig ht.1 (Jv ht.1 hi),Ji9 ht.2 hi⟩
      obtain ⟨h1,h2⟩:=J30 hu hd;have hs:=h;obtain ⟨w2,a1,a2,a3,a4,a5,a6⟩:=Kg ht.1 h1.1 h;have:w2=u:=by simp only[getT,hi] at a1;cases a1;rfl
      subst this;exact ⟨⟨a4,Jdv ht.1 h1.1 ht.2 h1.2 hs⟩,omg⟩
theorem Kda (s:List UInt8) (g:Bool) (e:Int) (kids:Forest) (j:Nat) (p:List Step) (hp:p.length<=1000) (hok:∀ y∈p,Bc y) (hg:GT (.mk 5 s g e kids)) (hv:((Tree.mk 5 s g e kids).enc []).length<=150000000000) (hst:Bc ⟨true,[],(j:Int)⟩)
  (ih:∀ u,GT u->(u.enc []).length<=150000000000->Det cx 23 [.p (.sl (Bb p)),.p (.sl (valL (u.enc [])))] [] (getR (delT p u)) []) :
  Det cx 23 [.p (.sl (Bb (⟨true,[],j⟩ :: p))),.p (.sl (valL ((Tree.mk 5 s g e kids).enc [])))] [] (getR (delT (⟨true,[],j⟩ :: p) (.mk 5 s g e kids))) []:=by
 have hgx:(Bb (⟨true,[],j⟩ :: p))[0]? = some [.bool true,.str [],.int .i64 j]:=rfl;have hel3:∀ q∈Bb (⟨true,[],(j:Int)⟩ :: p),q.length=3:=by
  intro q hq;obtain ⟨y,_,rfl⟩:=Eav.1 hq;rfl
 have hdx:(Bb (⟨true,[],j⟩ :: p)).drop 1=Bb p:=rfl;have hl1:(⟨true,[],(j:Int)⟩ :: p:List Step).length=p.length+1:=rfl;have htk:(Bb p).take p.length=Bb p:=Ead (by rw[Aq];exact Eaj _);have hN:=Jwc 5 s g e kids de;have hP:=Jvp (.mk 5 s g e kids) omg;have hF:=Jxq (.mk 5 s g e kids) [] omg;rw[show Jyj (.mk 5 s g e kids) []=none from rfl,Oo] at hF;have hgv:=Cc [] 5 s g e kids;have hkd:=Jtw hg;have hsz:=Jq1 (.mk 5 s g e kids);have hsl:=Jrh (Jqe (.mk 5 s g e kids));have hkl:(Jqe (.mk 5 s g e kids)).length=kids.list.length:=Ebg ..
 have hR:delT (⟨true,[],j⟩ :: p) (.mk 5 s g e kids)=match kids.list[j]? with
   | none=>.ok (.mk 5 s g e kids)
   | some q=>if p=[] then .ok (Kj8 ((Jqe (.mk 5 s g e kids)).eraseIdx j)) else match delT p q.2 with
    | .error e=>.error e
    | .ok w=>setT [⟨true,[],j⟩] (.mk 5 s g e kids) w:=by
  have h5:inT (.mk 5 s g e kids) ⟨true,[],(j:Int)⟩=match kids.list[j]? with
   | some p=>.ok p.2
   | none=>.error 6:=Tm rfl
  have hk:¬ (Tree.mk 5 s g e kids).kind=0:=(by decide:¬ (5:Int)=0)
  rw[delT,if_neg hk,h5];cases kids.list[j]? with
  | none=>rfl
  | some q =>
   simp only;by_cases hp0:p=[]
   ·rw[if_pos hp0,if_pos hp0];rfl
   ·rw[if_neg hp0,if_neg hp0];cases delT p q.2<;>rfl
 rw[hR];cases hj2:kids.list[j]? with
 | none =>
  have c1:((kids.list.length:Int)<=(j:Int))=True:=eq_true (by have:=List.getElem?_eq_none_iff.1 hj2;omega);simp only[getR];generalize valL ((Tree.mk 5 s g e kids).enc [])=V at *
  (refine bgo func23 ?_;simp only[go_sem,simprocAttr,Aq,hgv,hl1]);(repeat'(first|(apply iteI<;>intro h)|((first|refine Jqm ?_|refine Jqa hN ?_|refine Jqa hP ?_);simp only[go_sem,simprocAttr,hgx,hgv])|(exfalso;omega)));refine SWP.loop (fun _:Unit=>⟨Ba 150 [(0,.p (.sl (Bb (⟨true,[],(j:Int)⟩ :: p)))),(1,.p (.sl V)),(6,.p (.sl [])),(7,.p (.sl (Jqd (Jqe (.mk 5 s g e kids))))),(8,.p (.int .i64 j)),(9,.p (.int .i64 0))],[]⟩) (fun _=>True) (fun _=>0) () Jqc trivial ?_;rintro _ _;(refine lws ?_;simp only[go_sem,simprocAttr,hgx]);(repeat'(first|((refine Jqa hF ?_);simp only[go_sem,simprocAttr,hgx,Jqf,hkl,c1])|fail))
 | some q =>
  have hlt:j<kids.list.length:=(Eab.1 hj2).1;have c1:((kids.list.length:Int)<=(j:Int))=False:=eq_false omg;have hq:(Jqe (.mk 5 s g e kids))[j]? = some q.2:=by
   show (kids.list.map (·.2))[j]? = _;rw[Eal,hj2];rfl
  have hgq:=Jq5 hq;have hqm:=Eae hq;have hqs:=Jr0 hqm;cases p with
  | nil =>
   have hL:=Js4 ((Jqe (.mk 5 s g e kids)).eraseIdx j) (by have:=Jx7 j (Jqe (.mk 5 s g e kids));omega);simp only[if_true,getR];generalize valL ((Tree.mk 5 s g e kids).enc [])=V at *
   have hel1:=Jvr (Jqe (.mk 5 s g e kids));have htd:(Jqd (Jqe (.mk 5 s g e kids))).take j ++ (Jqd (Jqe (.mk 5 s g e kids))).drop (j+1)=Jqd ((Jqe (.mk 5 s g e kids)).eraseIdx j):=by
    rw[<- List.eraseIdx_eq_take_drop_succ];simp only[Jqd,List.eraseIdx_eq_take_drop_succ,Eb9,Ec2,Edh]
   have hel2:∀ q∈(Jqd (Jqe (.mk 5 s g e kids))).take j,q.length=1:=fun q hq=>hel1 q (Ebi hq)
   have hel4:∀ q∈(Jqd (Jqe (.mk 5 s g e kids))).drop (j+1),q.length=1:=fun q hq=>hel1 q (Ea3 hq)
   have hl2:((Jqd (Jqe (.mk 5 s g e kids))).take j).length=j:=by rw[Eas,Jqf];omega
   have hl3:((Jqd (Jqe (.mk 5 s g e kids))).drop (j+1)).length=(Jqe (.mk 5 s g e kids)).length - (j+1):=by rw[Ebd,Jqf]
   have hl4:((Jqe (.mk 5 s g e kids)).eraseIdx j).length=(Jqe (.mk 5 s g e kids)).length - 1:=by rw[Ecs,if_pos omg]
   have hl5:j+((Jqe (.mk 5 s g e kids)).length - (j+1))=(Jqe (.mk 5 s g e kids)).length - 1:=by omega
   have htl:(Jqd ((Jqe (.mk 5 s g e kids)).eraseIdx j)).take ((Jqe (.mk 5 s g e kids)).length - 1)=Jqd ((Jqe (.mk 5 s g e kids)).eraseIdx j):=Ead (by rw[Jqf];omega);have w1:IntKind.i64.wrap ((j:Int)+1)=((j+1:Nat):Int):=by rw[Aa omg omg];omega
   generalize Jqe (.mk 5 s g e kids)=K at *
   generalize kids.list.length=N at *
   subst hkl;(refine bgo func23 ?_;simp only[go_sem,simprocAttr,Aq,hgv]);(repeat'(first|((first|refine Jqm ?_|refine Jqa hN ?_|refine Jqa hP ?_);simp only[go_sem,simprocAttr,hgx,hgv])|fail));refine SWP.loop (fun _:Unit=>⟨Ba 150 [(0,.p (.sl (Bb [⟨true,[],(j:Int)⟩]))),(1,.p (.sl V)),(6,.p (.sl [])),(7,.p (.sl (Jqd K))),(8,.p (.int .i64 j)),(9,.p (.int .i64 0))],[]⟩) (fun _=>True) (fun _=>0) () Jqc trivial ?_;rintro _ _;(refine lws ?_;simp only[go_sem,simprocAttr,hgx]);(repeat'(first|((refine Jqa hF ?_);simp only[go_sem,simprocAttr,Aq,hgx,Jqf,c1])|fail));refine J1j (qj 1 4 5 9) [1,2,3,5,6,7,8] (.node 0 (.node 4 (.node 9 (.node 10 .leaf .nil) .nil) .nil) .nil) 4 hm rfl kr kr ?_;simp only[go_sem,simprocAttr,Jqf,w1,htd,htl,hl2,hl3,hl4,hl5,Eaj];(repeat'(first|(refine And.intro (by first|exact hel1 | exact hel2 | exact hel4 | (simp;done)|(simp;omega) | omega) ?_)|((refine Jqa hL ?_);simp only[go_sem,simprocAttr])|fail))
  | cons y p =>
   have hI:=ih q.2 (hkd _ hqm) omg;have hl2:(y :: p).length=p.length+1:=rfl;have c2:((1:Int)<((p.length+1+1:Nat):Int))=True:=eq_true omg;simp only[reduceCtorEq,if_false];cases hd:delT (y :: p) q.2 with
   | error er =>
    rw[hd,getR] at hI;have:=Jy1 hd;subst this;simp only[getR];generalize valL ((Tree.mk 5 s g e kids).enc [])=V at *
    (refine bgo func23 ?_;simp only[go_sem,simprocAttr,Aq,hgv,hl1,hl2]);(repeat'(first|(apply iteI<;>intro h)|((first|refine Jqm ?_|refine Jqa hN ?_|refine Jqa hP ?_);simp only[go_sem,simprocAttr,hgx,hgv])|(exfalso;omega)));refine SWP.loop (fun _:Unit=>⟨Ba 150 [(0,.p (.sl (Bb (⟨true,[],(j:Int)⟩ :: y :: p)))),(1,.p (.sl V)),(6,.p (.sl [])),(7,.p (.sl (Jqd (Jqe (.mk 5 s g e kids))))),(8,.p (.int .i64 j)),(9,.p (.int .i64 0))],[]⟩) (fun _=>True) (fun _=>0) () Jqc trivial ?_;rintro _ _;(refine lws ?_;simp only[go_sem,simprocAttr,hgx]);(repeat'(first|refine And.intro hel3 ?_|refine Jqj ?_|((first|refine Jqm ?_|refine Jqa hF ?_|refine Jqb hI ?_);simp only[go_sem,simprocAttr,Aq,hgx,hl1,hl2,Jqf,hkl,c1,c2,hgq,hdx])|fail))
   | ok w =>
    rw[hd,getR] at hI;have hw:=J30 (hkd _ hqm) hd;have hS:=Tk [⟨true,[],(j:Int)⟩] (.mk 5 s g e kids) w sm (fun x hx=>by simp only[Eam,Ebt,or_false] at hx;subst hx;exact hst) hg.1 hg.2 hw.1.1 omg;have htk1:(Bb (⟨true,[],(j:Int)⟩ :: y :: p)).take 1=Bb [⟨true,[],(j:Int)⟩]:=rfl;simp only;rw[Jqz] at hS ⊢;generalize valL ((Tree.mk 5 s g e kids).enc [])=V at *
    (refine bgo func23 ?_;simp only[go_sem,simprocAttr,Aq,hgv,hl1,hl2]);(repeat'(first|(apply iteI<;>intro h)|((first|refine Jqm ?_|refine Jqa hN ?_|refine Jqa hP ?_);simp only[go_sem,simprocAttr,hgx,hgv])|(exfalso;omega)));refine SWP.loop (fun _:Unit=>⟨Ba 150 [(0,.p (.sl (Bb (⟨true,[],(j:Int)⟩ :: y :: p)))),(1,.p (.sl V)),(6,.p (.sl [])),(7,.p (.sl (Jqd (Jqe (.mk 5 s g e kids))))),(8,.p (.int .i64 j)),(9,.p (.int .i64 0))],[]⟩) (fun _=>True) (fun _=>0) () Jqc trivial ?_;rintro _ _;(refine lws ?_;simp only[go_sem,simprocAttr,hgx]);(repeat'(first|refine And.intro hel3 ?_|refine Jqj ?_|((first|refine Jqm ?_|refine Jqa hF ?_|refine Jqb hI ?_|refine Jqa hS ?_);simp only[go_sem,simprocAttr,Aq,hgx,hl1,hl2,Jqf,hkl,c1,c2,hgq,hdx,htk1])|fail))
def atK (name:List UInt8) (l:List KT):Nat->Nat
 | 0=>0
 | i+1=>match l[i]? with
  | some q=>if q.1=name then i else atK name l i
  | none=>atK name l i
theorem Jyy {name:List UInt8} {l:List KT} {i:Nat} {q:KT} (h:l[i]? = some q) (hn:q.1=name):atK name l (i+1)=i:=by rw[atK,h];exact if_pos hn
theorem J2y {name:List UInt8} {l:List KT} {i:Nat} {q:KT} (h:l[i]? = some q) (hn:q.1≠name):atK name l (i+1)=atK name l i:=by rw[atK,h];exact if_neg hn
theorem Kf5 {name:List UInt8} {l:List KT}:∀ n,atK name l n<=n
 | 0=>Eaj _
 | n+1=>by
  have:=Kf5 (name:=name) (l:=l) n;rw[atK];split
  ·split<;>omega
  ·omega
theorem J9a {name:List UInt8} {l:List KT}:∀ n,n<=l.length->(∃ i q,i<n/\l[i]? = some q/\q.1=name)->∃ q,l[atK name l n]? = some q/\q.1=name
 | 0,_,⟨i,q,h,_⟩=>by omega
 | n+1,hn,⟨i,q,h1,h2,h3⟩=>by
  obtain ⟨r,hr⟩:∃ r,l[n]? = some r:=⟨_,Eaa omg⟩
  by_cases e:r.1=name
  ·rw[Jyy hr e];exact ⟨r,hr,e⟩
  ·rw[J2y hr e];refine J9a n omg ⟨i,q,?_,h2,h3⟩;rcases Ede i n with h | h
   ·exact h
   ·exfalso;obtain rfl:i=n:=by omega
    rw[hr] at h2;cases h2;exact e h3
theorem Jz4:∀ {l:List KT},(l.map (·.1)).Nodup->∀ {q:KT},q∈l->Ch q.1 l=some q.2
 | [],_,q,h=>by cases h
 | p :: l,hn,q,h=>by
  rw[Eay,Ebz] at hn;rw[Ch];rcases Eam.1 h with rfl | h
  ·exact if_pos rfl
  ·rw[if_neg (fun e=>hn.1 (by rw[e];exact Eav.2 ⟨q,h,rfl⟩))];exact Jz4 hn.2 h
theorem J98 (s:List UInt8) (g:Bool) (e:Int) (kids:Forest) (nm:List UInt8) (p:List Step) (hp:p.length<=1000) (hok:∀ y∈p,Bc y) (hg:GT (.mk 6 s g e kids)) (hv:((Tree.mk 6 s g e kids).enc []).length<=150000000000) (hst:Bc ⟨false,nm,0⟩)
  (ih:∀ u,GT u->(u.enc []).length<=150000000000->Det cx 23 [.p (.sl (Bb p)),.p (.sl (valL (u.enc [])))] [] (getR (delT p u)) []) :
  Det cx 23 [.p (.sl (Bb (⟨false,nm,0⟩ :: p))),.p (.sl (valL ((Tree.mk 6 s g e kids).enc [])))] [] (getR (delT (⟨false,nm,0⟩ :: p) (.mk 6 s g e kids))) []:=by
 have hgx:(Bb (⟨false,nm,0⟩ :: p))[0]? = some [.bool false,.str nm,.int .i64 0]:=rfl;have hel3:∀ q∈Bb (⟨false,nm,0⟩ :: p),q.length=3:=by
  intro q hq;obtain ⟨y,_,rfl⟩:=Eav.1 hq;rfl
 have hdx:(Bb (⟨false,nm,0⟩ :: p)).drop 1=Bb p:=rfl;have hl1:(⟨false,nm,0⟩ :: p:List Step).length=p.length+1:=rfl;have htk:(Bb p).take p.length=Bb p:=Ead (by rw[Aq];exact Eaj _);have h9:((Tree.mk 6 s g e kids).enc []).length=kids.enc.length+1:=by rw[A6,Eaf]
 have hN:=Ir [] s g e kids omg;have hP:=Jvp (.mk 6 s g e kids) omg;have hF:=Jxq (.mk 6 s g e kids) nm omg;rw[show Jyj (.mk 6 s g e kids) nm=Ch nm kids.list from rfl] at hF;have hgv:=Cc [] 6 s g e kids;have hkd:=Jtw hg;have hsz:=Jq1 (.mk 6 s g e kids);have hsl:=Jrh (Jqe (.mk 6 s g e kids));have hkl:(Jqe (.mk 6 s g e kids)).length=kids.list.length:=Ebg ..
 have hrise:Rise kids.list:=(Lu.1 hg.1).2.1.2.2 rfl;have h6:inT (.mk 6 s g e kids) ⟨false,nm,0⟩=match Ch nm kids.list with
  | some t=>.ok t
  | none=>.error 6:=Tp rfl
 have hk:¬ (Tree.mk 6 s g e kids).kind=0:=(by decide:¬ (6:Int)=0)
 have hR:delT (⟨false,nm,0⟩ :: p) (.mk 6 s g e kids)=match Ch nm kids.list with
   | none=>.ok (.mk 6 s g e kids)
   | some u=>if p=[] then .ok (nd 6 (A8 nm kids.list)) else match delT p u with
    | .error e=>.error e
    | .ok w=>setT [⟨false,nm,0⟩] (.mk 6 s g e kids) w:=by
  rw[delT,if_neg hk,h6];cases Ch nm kids.list with
  | none=>rfl
  | some u =>
   simp only;by_cases hp0:p=[]
   ·rw[if_pos hp0,if_pos hp0];rfl
   ·rw[if_neg hp0,if_neg hp0];cases delT p u<;>rfl
 rw[hR];have hnl:=A9 kids.list;have hal:=Kf5 (name:=nm) (l:=kids.list) kids.list.length;cases hf:Ch nm kids.list with
 | none =>
  rw[hf,Oo] at hF;simp only[getR];generalize valL ((Tree.mk 6 s g e kids).enc [])=V at *
  (refine bgo func23 ?_;simp only[go_sem,simprocAttr,Aq,hgv,hl1]);(repeat'(first|(apply iteI<;>intro h)|((first|refine Jqm ?_|refine Jqa hN ?_|refine Jqa hP ?_);simp only[go_sem,simprocAttr,hgx,hgv])|(exfalso;omega)));refine SWP.loop (fun i:Nat=>⟨Ba 150 [(0,.p (.sl (Bb (⟨false,nm,0⟩ :: p)))),(1,.p (.sl V)),(6,.p (.sl (Bd kids.list))),(7,.p (.sl (Jqd (Jqe (.mk 6 s g e kids))))),(8,.p (.int .i64 (atK nm kids.list i))),(9,.p (.int .i64 i))],[]⟩) (fun i=>i<=kids.list.length) (fun i=>kids.list.length - i) 0 (by rw[show atK nm kids.list 0=0 from rfl];exact Jqc) (Eat _) ?_;rintro i hi;by_cases hlt:i<kids.list.length
  ·have c1:((i:Int)<(kids.list.length:Int))=True:=eq_true omg;obtain ⟨q,hq⟩:∃ q,kids.list[i]? = some q:=⟨_,Eaa hlt⟩
   have hgn:=Jtg hq;have hqn:q.1≠nm:=fun h=>by
    have:=Jz4 hrise.nodup (Eae hq);rw[h,hf] at this;cases this
   have hne:=eq_false hqn;have hat:=J2y hq hqn;(refine lws ?_;simp only[go_sem,simprocAttr,hnl,c1,wj1 (i:=i) omg]);(repeat'(first|((refine Jqm ?_);simp only[go_sem,simprocAttr,hgx,hgn,hne,wj1 (i:=i) omg])|fail))
   all_goals exact ⟨i+1,omg,omg,by rw[hat];exact Jqc⟩
  ·obtain rfl:i=kids.list.length:=by omega
   have c1:((kids.list.length:Int)<(kids.list.length:Int))=False:=eq_false omg;(refine lws ?_;simp only[go_sem,simprocAttr,hgx,hnl,c1]);(repeat'(first|((refine Jqa hF ?_);simp only[go_sem,simprocAttr,hgx])|fail))
 | some u =>
  rw[hf,Oo] at hF;obtain ⟨q,hq1,hq2,hq3⟩:=Kj7 hf;obtain ⟨iq,hiq⟩:=Ebr hq1;obtain ⟨r,hr1,hr2⟩:=J9a (name:=nm) (l:=kids.list) kids.list.length (Eaj _) ⟨iq,q,(Eab.1 hiq).1,hiq,hq3⟩;have hru:r.2=u:=by
   have:=Jz4 hrise.nodup (Eae hr1);rw[hr2,hf] at this;cases this;rfl
  have hgu:(Jqe (.mk 6 s g e kids))[atK nm kids.list kids.list.length]? = some u:=by
   show (kids.list.map (·.2))[_]? = _;rw[Eal,hr1,<- hru];rfl
  have hgq:=Jq5 hgu;have hum:=Eae hgu;have hus:=Jr0 hum;cases p with
  | nil =>
   have hW:=Jyl [] s g e kids nm omg;rw[show Tree.mk 6 [] false 0 (A1 (A8 nm kids.list))=nd 6 (A8 nm kids.list) from rfl] at hW;simp only[if_true,getR];generalize valL ((nd 6 (A8 nm kids.list)).enc [])=R at *
   generalize valL ((Tree.mk 6 s g e kids).enc [])=V at *
   (refine bgo func23 ?_;simp only[go_sem,simprocAttr,Aq,hgv]);(repeat'(first|((first|refine Jqm ?_|refine Jqa hN ?_|refine Jqa hP ?_);simp only[go_sem,simprocAttr,hgx,hgv])|fail));refine SWP.loop (fun i:Nat=>⟨Ba 150 [(0,.p (.sl (Bb [⟨false,nm,0⟩]))),(1,.p (.sl V)),(6,.p (.sl (Bd kids.list))),(7,.p (.sl (Jqd (Jqe (.mk 6 s g e kids))))),(8,.p (.int .i64 (atK nm kids.list i))),(9,.p (.int .i64 i))],[]⟩) (fun i=>i<=kids.list.length) (fun i=>kids.list.length - i) 0 (by rw[show atK nm kids.list 0=0 from rfl];exact Jqc) (Eat _) ?_;rintro i hi;by_cases hlt:i<kids.list.length
   ·have c1:((i:Int)<(kids.list.length:Int))=True:=eq_true omg;obtain ⟨q,hq⟩:∃ q,kids.list[i]? = some q:=⟨_,Eaa hlt⟩
    have hgn:=Jtg hq;by_cases hqn:q.1=nm
    ·have hne:=eq_true hqn;have hat:=Jyy hq hqn;(refine lws ?_;simp only[go_sem,simprocAttr,hnl,c1,wj1 (i:=i) omg]);(repeat'(first|((refine Jqm ?_);simp only[go_sem,simprocAttr,hgx,hgn,hne,wj1 (i:=i) omg])|fail))
     all_goals exact ⟨i+1,omg,omg,by rw[hat];exact Jqc⟩
    ·have hne:=eq_false hqn;have hat:=J2y hq hqn;(refine lws ?_;simp only[go_sem,simprocAttr,hnl,c1,wj1 (i:=i) omg]);(repeat'(first|((refine Jqm ?_);simp only[go_sem,simprocAttr,hgx,hgn,hne,wj1 (i:=i) omg])|fail))
     all_goals exact ⟨i+1,omg,omg,by rw[hat];exact Jqc⟩
   ·obtain rfl:i=kids.list.length:=by omega
    have c1:((kids.list.length:Int)<(kids.list.length:Int))=False:=eq_false omg;(refine lws ?_;simp only[go_sem,simprocAttr,hgx,hnl,c1]);(repeat'(first|((first|refine Jqa hF ?_|refine Jqa hW ?_);simp only[go_sem,simprocAttr,Aq,hgx])|fail))
  | cons y p =>
   have hI:=ih u (hkd _ hum) omg;have hl2:(y :: p).length=p.length+1:=rfl;have c2:((1:Int)<((p.length+1+1:Nat):Int))=True:=eq_true omg;simp only[reduceCtorEq,if_false];cases hd:delT (y :: p) u with
   | error er =>
    rw[hd,getR] at hI;have:=Jy1 hd;subst this;simp only[getR];generalize valL ((Tree.mk 6 s g e kids).enc [])=V at *
    (refine bgo func23 ?_;simp only[go_sem,simprocAttr,Aq,hgv,hl1,hl2]);(repeat'(first|(apply iteI<;>intro h)|((first|refine Jqm ?_|refine Jqa hN ?_|refine Jqa hP ?_);simp only[go_sem,simprocAttr,hgx,hgv])|(exfalso;omega)));refine SWP.loop (fun i:Nat=>⟨Ba 150 [(0,.p (.sl (Bb (⟨false,nm,0⟩ :: y :: p)))),(1,.p (.sl V)),(6,.p (.sl (Bd kids.list))),(7,.p (.sl (Jqd (Jqe (.mk 6 s g e kids))))),(8,.p (.int .i64 (atK nm kids.list i))),(9,.p (.int .i64 i))],[]⟩) (fun i=>i<=kids.list.length) (fun i=>kids.list.length - i) 0 (by rw[show atK nm kids.list 0=0 from rfl];exact Jqc) (Eat _) ?_;rintro i hi;by_cases hlt:i<kids.list.length
    ·have c1:((i:Int)<(kids.list.length:Int))=True:=eq_true omg;obtain ⟨q,hq⟩:∃ q,kids.list[i]? = some q:=⟨_,Eaa hlt⟩
     have hgn:=Jtg hq;by_cases hqn:q.1=nm
     ·have hne:=eq_true hqn;have hat:=Jyy hq hqn;(refine lws ?_;simp only[go_sem,simprocAttr,hnl,c1,wj1 (i:=i) omg]);(repeat'(first|((refine Jqm ?_);simp only[go_sem,simprocAttr,hgx,hgn,hne,wj1 (i:=i) omg])|fail))
      all_goals exact ⟨i+1,omg,omg,by rw[hat];exact Jqc⟩
     ·have hne:=eq_false hqn;have hat:=J2y hq hqn;(refine lws ?_;simp only[go_sem,simprocAttr,hnl,c1,wj1 (i:=i) omg]);(repeat'(first|((refine Jqm ?_);simp only[go_sem,simprocAttr,hgx,hgn,hne,wj1 (i:=i) omg])|fail))
      all_goals exact ⟨i+1,omg,omg,by rw[hat];exact Jqc⟩
    ·obtain rfl:i=kids.list.length:=by omega
     have c1:((kids.list.length:Int)<(kids.list.length:Int))=False:=eq_false omg;(refine lws ?_;simp only[go_sem,simprocAttr,hgx,hnl,c1]);(repeat'(first|refine And.intro hel3 ?_|refine Jqj ?_|((first|refine Jqm ?_|refine Jqa hF ?_|refine Jqb hI ?_);simp only[go_sem,simprocAttr,Aq,hgx,hl1,hl2,c2,hgq,hdx])|fail))
   | ok w =>
    rw[hd,getR] at hI;have hw:=J30 (hkd _ hum) hd;have hS:=Tk [⟨false,nm,0⟩] (.mk 6 s g e kids) w sm (fun x hx=>by simp only[Eam,Ebt,or_false] at hx;subst hx;exact hst) hg.1 hg.2 hw.1.1 omg;have htk1:(Bb (⟨false,nm,0⟩ :: y :: p)).take 1=Bb [⟨false,nm,0⟩]:=rfl;simp only;rw[Jqz] at hS ⊢;generalize valL ((Tree.mk 6 s g e kids).enc [])=V at *
    (refine bgo func23 ?_;simp only[go_sem,simprocAttr,Aq,hgv,hl1,hl2]);(repeat'(first|(apply iteI<;>intro h)|((first|refine Jqm ?_|refine Jqa hN ?_|refine Jqa hP ?_);simp only[go_sem,simprocAttr,hgx,hgv])|(exfalso;omega)));refine SWP.loop (fun i:Nat=>⟨Ba 150 [(0,.p (.sl (Bb (⟨false,nm,0⟩ :: y :: p)))),(1,.p (.sl V)),(6,.p (.sl (Bd kids.list))),(7,.p (.sl (Jqd (Jqe (.mk 6 s g e kids))))),(8,.p (.int .i64 (atK nm kids.list i))),(9,.p (.int .i64 i))],[]⟩) (fun i=>i<=kids.list.length) (fun i=>kids.list.length - i) 0 (by rw[show atK nm kids.list 0=0 from rfl];exact Jqc) (Eat _) ?_;rintro i hi;by_cases hlt:i<kids.list.length
    ·have c1:((i:Int)<(kids.list.length:Int))=True:=eq_true omg;obtain ⟨q,hq⟩:∃ q,kids.list[i]? = some q:=⟨_,Eaa hlt⟩
     have hgn:=Jtg hq;by_cases hqn:q.1=nm
     ·have hne:=eq_true hqn;have hat:=Jyy hq hqn;(refine lws ?_;simp only[go_sem,simprocAttr,hnl,c1,wj1 (i:=i) omg]);(repeat'(first|((refine Jqm ?_);simp only[go_sem,simprocAttr,hgx,hgn,hne,wj1 (i:=i) omg])|fail))
      all_goals exact ⟨i+1,omg,omg,by rw[hat];exact Jqc⟩
     ·have hne:=eq_false hqn;have hat:=J2y hq hqn;(refine lws ?_;simp only[go_sem,simprocAttr,hnl,c1,wj1 (i:=i) omg]);(repeat'(first|((refine Jqm ?_);simp only[go_sem,simprocAttr,hgx,hgn,hne,wj1 (i:=i) omg])|fail))
      all_goals exact ⟨i+1,omg,omg,by rw[hat];exact Jqc⟩
    ·obtain rfl:i=kids.list.length:=by omega
     have c1:((kids.list.length:Int)<(kids.list.length:Int))=False:=eq_false omg;(refine lws ?_;simp only[go_sem,simprocAttr,hgx,hnl,c1]);(repeat'(first|refine And.intro hel3 ?_|refine Jqj ?_|((first|refine Jqm ?_|refine Jqa hF ?_|refine Jqb hI ?_|refine Jqa hS ?_);simp only[go_sem,simprocAttr,Aq,hgx,hl1,hl2,c2,hgq,hdx,htk1])|fail))
end Go.LX
namespace Go.LX
open Go Go.RowKit Go.Proofs
attribute [local irreducible] Al SWP Bi
def GW (w:Nat) (t u:Tree):Prop:=GT u/\(u.enc []).length<=w * (t.enc []).length
theorem GW.mono {a b:Nat} {t u:Tree} (h:GW a t u) (hab:a<=b):GW b t u:=⟨h.1,Nat.le_trans h.2 (Ebb _ hab)⟩
end Go.LX
namespace Go.LX
open Go Go.RowKit Go.Proofs Go.Proofs.Tryz
attribute [local irreducible] Al SWP Bi
theorem J89 {x:Step} {p:List Step} {s:List UInt8} {g:Bool} {e:Int} {kids:Forest}:delT (x :: p) (.mk 0 s g e kids)=.ok (.mk 0 s g e kids):=by rw[delT];exact if_pos rfl
theorem J7p {x:Step} {p:List Step} {k:Int} {s:List UInt8} {g:Bool} {e:Int} {kids:Forest} (h0:¬ k=0) (h:inT (.mk k s g e kids) x=.error 5):delT (x :: p) (.mk k s g e kids)=.error 5:=by
 have hk:¬ (Tree.mk k s g e kids).kind=0:=h0;rw[delT,if_neg hk,h];rfl
theorem J13:∀ (p:List Step) (t:Tree),p.length<=1000->(∀ x∈p,Bc x)->GT t->(t.enc []).length<=150000000000->Det cx 23 [.p (.sl (Bb p)),.p (.sl (valL (t.enc [])))] [] (getR (delT p t)) []
 | [],t,_,_,_,_=>by
  rw[delT,getR];(refine bgo func23 ?_;simp only[go_sem,simprocAttr,Aq]);(repeat'(first|((refine Jqa Jut ?_);simp only[go_sem,simprocAttr])|fail))
 | x :: p,t,hp,hok,hg,hv=>by
  rw[Eaf] at hp;have hok':∀ y∈p,Bc y:=fun y hy=>hok y (Eah _ hy)
  have hst:=hok x Eag;have ih:=fun u hu hv=>J13 p u omg hok' hu hv
  obtain ⟨k,s,g,e,kids⟩:=t;have hgv:=Cc [] k s g e kids;have hgx:(Bb (x :: p))[0]? = some [.bool x.part,.str x.name,.int .i64 x.n]:=rfl;have hl1:(x :: p).length=p.length+1:=rfl;by_cases k0:k=0
  ·subst k0;rw[J89,getR];generalize valL ((Tree.mk 0 s g e kids).enc [])=V at *
   (refine bgo func23 ?_;simp only[go_sem,simprocAttr,Aq,hgv,hl1]);(repeat'(first|(apply iteI<;>intro h)|(exact True.intro)|(exfalso;omega)))
   all_goals rfl
  ·have e0:=eq_false k0;obtain ⟨b,nm,m⟩:=x;cases b with
   | true =>
    have hgx:(Bb (⟨true,nm,m⟩ :: p))[0]? = some [.bool true,.str nm,.int .i64 m]:=rfl;by_cases k5:k=5
    ·subst k5;obtain ⟨h1,h2,h3⟩:=hst;have h2:0<=m:=h2;obtain ⟨j,rfl⟩:∃ j:Nat,m=j:=⟨m.toNat,omg⟩
     have h1:nm=[]:=h1;subst h1;exact Kda s g e kids j p omg hok' hg hv ⟨rfl,h2,h3⟩ ih
    ·have e5:=eq_false k5;have b5:(k == 5)=false:=by simp[k5]
     rw[J7p k0 (Iz rfl k5),getR];generalize valL ((Tree.mk k s g e kids).enc [])=V at *
     (refine bgo func23 ?_;simp only[go_sem,simprocAttr,Aq,hgv,hl1,e0]);(repeat'(first|(apply iteI<;>intro h)|((refine Jqm ?_);simp only[go_sem,simprocAttr,hgx,hgv,b5])|(exfalso;omega)))
     all_goals rfl
   | false =>
    have hgx:(Bb (⟨false,nm,m⟩ :: p))[0]? = some [.bool false,.str nm,.int .i64 m]:=rfl;by_cases k6:k=6
    ·subst k6;obtain ⟨h1,h2⟩:=hst;have h1:m=0:=h1;subst h1;exact J98 s g e kids nm p omg hok' hg hv ⟨rfl,h2⟩ ih
    ·have e6:=eq_false k6;rw[J7p k0 (Iw rfl k6),getR];generalize valL ((Tree.mk k s g e kids).enc [])=V at *
     by_cases k5:k=5
     ·subst k5;(refine bgo func23 ?_;simp only[go_sem,simprocAttr,Aq,hgv,hl1]);(repeat'(first|(apply iteI<;>intro h)|((refine Jqm ?_);simp only[go_sem,simprocAttr,hgx,hgv])|(exfalso;omega)))
      all_goals rfl
     ·have e5:=eq_false k5;have b5:(k == 5)=false:=by simp[k5]
      (refine bgo func23 ?_;simp only[go_sem,simprocAttr,Aq,hgv,hl1,e0]);(repeat'(first|(apply iteI<;>intro h)|((refine Jqm ?_);simp only[go_sem,simprocAttr,hgx,hgv,b5,e6])|(exfalso;omega)))
      all_goals rfl
theorem Jtp (l:List Tree) (h:Jqn l<=1350000000000):Det cx 69 [.p (.sl (Jqd l))] [] (.p (.sl (valL ((Kj8 l).enc [])))) []:=by
 have:=Kfd (unT l) (by rw[J1i,J1d];exact h);rw[J1i,<- J3z] at this;exact this
theorem J87 (v:Tree) (hv:(v.enc []).length<=1500000000000):Det cx 68 [.p (.sl (valL (v.enc [])))] [] (.own 900 0 (Jqe v).length) [(900,.row 25 1 (Jqd (Jqe v)))]:=by
 obtain ⟨k,s,g,e,kids⟩:=v;have:=Jc9 [] k s g e kids (by rw[A6] at hv;simp at hv;omega);rw[Jst,<- Jqh] at this;rw[show (Jqe (.mk k s g e kids)).length=kids.list.length from Ebg ..];exact this
theorem J0o:∀ (l:List Tree) (j:Nat),(Jqd l).eraseIdx j=Jqd (l.eraseIdx j)
 | [],_=>rfl
 | _ :: _,0=>rfl
 | t :: l,j+1=>by
  rw[show Jqd (t :: l)=[.sl (valL (t.enc []))] :: Jqd l from rfl,List.eraseIdx_cons_succ,List.eraseIdx_cons_succ,J0o l j];rfl
theorem Jz5:∀ (p:List Step) (t:Tree),p.length<=1000->(∀ x∈p,Bc x)->GT t->(t.enc []).length<=150000000000->Det cx 22 [.p (.sl (Bb p)),.p (.sl (valL (t.enc [])))] [] (getR (delT p t)) []
 | [],t,_,_,_,_=>by
  rw[delT,getR];(refine bgo func22 ?_;simp only[go_sem,simprocAttr,Aq]);(repeat'(first|((refine Jqa J1a ?_);simp only[go_sem,simprocAttr])|fail))
 | x :: p,t,hp,hok,hg,hv=>by
  rw[Eaf] at hp;have hok':∀ y∈p,Bc y:=fun y hy=>hok y (Eah _ hy)
  have hst:=hok x Eag;have ih:=fun u hu hv=>Jz5 p u omg hok' hu hv
  have hI:=Kbd x t hst hg.1 omg;have hG:=M1 [x] t sm (fun y hy=>by simp at hy;subst hy;exact hst) omg;rw[J8w] at hG;have hgx:(Bb (x :: p))[0]? = some [.bool x.part,.str x.name,.int .i64 x.n]:=rfl;have hl1:(x :: p).length=p.length+1:=rfl;have htk1:(Bb (x :: p)).take 1=Bb [x]:=rfl;have hdx:(Bb (x :: p)).drop 1=Bb p:=rfl;have hel3:∀ q∈Bb (x :: p),q.length=3:=by
   intro q hq;obtain ⟨y,_,rfl⟩:=Eav.1 hq;rfl
  have htk:(Bb p).take p.length=Bb p:=Ead (by rw[Aq];exact Eaj _);have c0:(((p.length+1:Nat):Int)=0)=False:=eq_false omg;by_cases k0:t.kind=0
  ·obtain ⟨k,s,g,e,kids⟩:=t;have k0:k=0:=k0;subst k0;have h5:inT (.mk 0 s g e kids) x=.error 5:=by
    cases hx:x.part with
    | true=>exact Iz hx de
    | false=>exact Iw hx de
   have h0:Jrc x (.mk 0 s g e kids)=.ok nilT:=by unfold Jrc;exact if_pos rfl
   rw[h5,getR] at hG;rw[h0,getR] at hI;rw[J89,getR];generalize valL ((Tree.mk 0 s g e kids).enc [])=V at *
   (refine bgo func22 ?_;simp only[go_sem,simprocAttr,Aq,hgx,hl1,c0]);(repeat'(first|refine And.intro hel3 ?_|refine Jqj ?_|((first|refine Jqa hI ?_|refine Jqa hG ?_);simp only[go_sem,simprocAttr,Aq,hl1,htk1])|fail))
   all_goals rfl
  ·rw[delT,if_neg k0];cases hi:inT t x with
   | error e =>
    rw[hi,getR] at hG;rcases M2 hi with rfl | rfl
    ·have h5:Jrc x t=.error 5:=by
      obtain ⟨k,s,g,e,kids⟩:=t;have k0:¬ k=0:=k0;obtain ⟨b,nm,n⟩:=x;cases b with
      | true =>
       by_cases k5:k=5
       ·subst k5;rw[Tm rfl] at hi;simp only at hi;split at hi<;>cases hi
       ·exact J3l k0 k5
      | false =>
       by_cases k6:k=6
       ·subst k6;rw[Tp rfl] at hi;simp only at hi;split at hi<;>cases hi
       ·exact Jyn k0 k6
     rw[h5,getR] at hI;change Det cx _ _ _ (getR (.error 5)) _;rw[getR];generalize valL (t.enc [])=V at *
     (refine bgo func22 ?_;simp only[go_sem,simprocAttr,Aq,hgx,hl1,c0]);(repeat'(first|((refine Jqa hI ?_);simp only[go_sem,simprocAttr])|fail))
     all_goals rfl
    ·have h6:∃ u,Jrc x t=.ok u:=by
      cases hs:Jrc x t with
      | ok u=>exact ⟨u,rfl⟩
      | error e =>
       exfalso;obtain ⟨k,s,g,e',kids⟩:=t;have k0:¬ k=0:=k0;obtain ⟨b,nm,n⟩:=x;cases b with
       | true =>
        by_cases k5:k=5
        ·subst k5;rw[Jza] at hs;cases hs
        ·rw[Iz rfl k5] at hi;cases hi
       | false =>
        by_cases k6:k=6
        ·subst k6;rw[Jw4] at hs;cases hs
        ·rw[Iw rfl k6] at hi;cases hi
     obtain ⟨u,h6⟩:=h6;rw[h6,getR] at hI;change Det cx _ _ _ (getR (.ok t)) _;rw[getR];generalize valL (t.enc [])=V at *
     (refine bgo func22 ?_;simp only[go_sem,simprocAttr,Aq,hgx,hl1,c0]);(repeat'(first|refine And.intro hel3 ?_|refine Jqj ?_|((first|refine Jqa hI ?_|refine Jqa hG ?_);simp only[go_sem,simprocAttr,Aq,hl1,htk1])|fail))
     all_goals rfl
   | ok u =>
    rw[hi,getR] at hG;have hs:Jrc x t=.ok u:=by
     obtain ⟨k,s,g,e',kids⟩:=t;obtain ⟨b,nm,n⟩:=x;cases b with
     | true =>
      by_cases k5:k=5
      ·subst k5;rw[Jza];rw[Tm rfl] at hi;simp only at hi;cases hq:kids.list[n.toNat]? with
       | none=>rw[hq] at hi;cases hi
       | some q=>rw[hq] at hi;cases hi;rfl
      ·rw[Iz rfl k5] at hi;cases hi
     | false =>
      by_cases k6:k=6
      ·subst k6;rw[Jw4];rw[Tp rfl] at hi;simp only at hi;cases hq:Ch nm kids.list with
       | none=>rw[hq] at hi;cases hi
       | some q=>rw[hq] at hi;cases hi;rfl
      ·rw[Iw rfl k6] at hi;cases hi
    rw[hs,getR] at hI;have hgu:GT u:=J6k hg hs;have hul:=Q7 hi;cases p with
    | nil =>
     obtain ⟨k,s,g,e',kids⟩:=t;obtain ⟨b,nm,n⟩:=x;cases b with
     | true =>
      have k5:k=5:=by
       by_cases k5:k=5
       ·exact k5
       ·rw[Iz rfl k5] at hi;cases hi
      subst k5;obtain ⟨_,hn0,_⟩:=hst;have hn0:0<=n:=hn0;obtain ⟨j,rfl⟩:∃ j:Nat,n=j:=⟨n.toNat,omg⟩
      rw[Tm rfl] at hi;have hjl:j<kids.list.length:=by
       rcases Ede j kids.list.length with h | h
       ·exact h
       ·simp only[Int.toNat_natCast,Ece h] at hi;cases hi
      have hkl:(Jqe (.mk 5 s g e' kids)).length=kids.list.length:=Ebg ..
      have hsz:=Jq1 (.mk 5 s g e' kids);have hsl:=Jrh (Jqe (.mk 5 s g e' kids));have hP:=J87 (.mk 5 s g e' kids) omg;have hD:=J6d (Jqd (Jqe (.mk 5 s g e' kids))) (Jqe (.mk 5 s g e' kids)).length j sm omg omg;rw[J0o] at hD;have hL:=Jtp ((Jqe (.mk 5 s g e' kids)).eraseIdx j) (by have:=Jx7 j (Jqe (.mk 5 s g e' kids));omega);have htl:(Jqd ((Jqe (.mk 5 s g e' kids)).eraseIdx j)).take ((Jqe (.mk 5 s g e' kids)).length - 1)=Jqd ((Jqe (.mk 5 s g e' kids)).eraseIdx j):=Ead (by rw[Jqf,Ecs];split<;>omega);have hel1:=Jvr ((Jqe (.mk 5 s g e' kids)).eraseIdx j);have w1:IntKind.i64.wrap ((j:Int)+1)=((j+1:Nat):Int):=by rw[Aa omg omg];omega
      change Det cx _ _ _ (.tup [.sl (valL ((Kj8 ((Jqe (.mk 5 s g e' kids)).eraseIdx j)).enc [])),.int .i64 0]) _;generalize valL ((Tree.mk 5 s g e' kids).enc [])=V at *
      generalize Jqe (.mk 5 s g e' kids)=K at *
      have hke:(K.length - 1<=(K.eraseIdx j).length)=True:=eq_true (by rw[Ecs];split<;>omega);(refine bgo func22 ?_;simp only[go_sem,simprocAttr,Aq,hgx,hl1]);(repeat'(first|refine And.intro hel3 ?_|((first|refine Jqa hI ?_|refine Jqa hG ?_|refine Jqa hP ?_);simp only[go_sem,simprocAttr,Aq,hgx,hl1,htk1])|fail));(refine Gi 10 hm kr kr ?_;simp only[go_sem,simprocAttr,hgx,w1]);(repeat'(first|((first|refine Jqa hD ?_|refine Jqa hL ?_);simp only[go_sem,simprocAttr,htl,Jqf,hke])|fail))
      all_goals rfl
     | false =>
      have k6:k=6:=by
       by_cases k6:k=6
       ·exact k6
       ·rw[Iw rfl k6] at hi;cases hi
      subst k6;have hW:=Jfw [] s g e' kids nm (by rw[A6] at hv;simp at hv;omega);rw[show Tree.mk 6 [] false 0 (A1 (A8 nm kids.list))=nd 6 (A8 nm kids.list) from rfl] at hW;change Det cx _ _ _ (.tup [.sl (valL ((nd 6 (A8 nm kids.list)).enc [])),.int .i64 0]) _;generalize valL ((nd 6 (A8 nm kids.list)).enc [])=R at *
      generalize valL ((Tree.mk 6 s g e' kids).enc [])=V at *
      (refine bgo func22 ?_;simp only[go_sem,simprocAttr,Aq,hgx,hl1]);(repeat'(first|refine And.intro hel3 ?_|((first|refine Jqa hI ?_|refine Jqa hG ?_|refine Jqa hW ?_);simp only[go_sem,simprocAttr,Aq,hgx,hl1,htk1])|fail))
      all_goals rfl
    | cons y p =>
     have hIu:=ih u hgu omg;have hl2:(y :: p).length=p.length+1:=rfl;have c2:((1:Int)<((p.length+1+1:Nat):Int))=True:=eq_true omg;have c0:(((p.length+1+1:Nat):Int)=0)=False:=eq_false omg;simp only[reduceCtorEq,if_false];cases hd:delT (y :: p) u with
     | error er =>
      rw[hd,getR] at hIu;have:=Jy1 hd;subst this;simp only[getR];generalize valL (t.enc [])=V at *
      (refine bgo func22 ?_;simp only[go_sem,simprocAttr,Aq,hgx,hl1,hl2,c0]);(repeat'(first|refine And.intro hel3 ?_|refine Jqj ?_|((first|refine Jqa hI ?_|refine Jqa hG ?_|refine Jqa hIu ?_);simp only[go_sem,simprocAttr,Aq,hl1,hl2,htk1,c2,hdx])|fail))
      all_goals rfl
     | ok w =>
      rw[hd,getR] at hIu;have hw:=J30 hgu hd;have hS:=L8 [x] t w sm (fun z hz=>by simp only[Eam,Ebt,or_false] at hz;subst hz;exact hst) hg.1 hw.1.1 omg;simp only;rw[Jqz] at hS ⊢;generalize valL (t.enc [])=V at *
      (refine bgo func22 ?_;simp only[go_sem,simprocAttr,Aq,hgx,hl1,hl2,c0]);(repeat'(first|refine And.intro hel3 ?_|refine Jqj ?_|((first|refine Jqa hI ?_|refine Jqa hG ?_|refine Jqa hIu ?_|refine Jqa hS ?_);simp only[go_sem,simprocAttr,Aq,hl1,hl2,htk1,c2,hdx])|fail))
      all_goals rfl
theorem Kdr (c:List PV) (cs:List (List PV)) (h6:∀ q∈c :: cs,q.length=11) (hl:cs.length<=850000000000):Det cx 133 [.p (.sl (c :: cs))] [] (.own 900 0 (cs.length+1)) [(900,.row 38 11 (c :: cs))]:=by
 (refine bgoR true [(7,900)] func133 ?_;simp only[go_sem,simprocAttr]);(repeat'(first|refine Jqj ?_|fail));omega
theorem Kgj (v:List YRow):Det cx 84 [.p (.sl (rowL v))] [] (.fn 132 [900]) [(900,.var 23 [.p (.sl (rowL v))])]:=by
 (refine bgoR true [(1,900)] func84 ?_;simp only[go_sem,simprocAttr])
def Js3 (f:RF):List (List PV):=f.list.map fun p=>[.str p.1,.sl (rowL (p.2.enc []))]
theorem Jyp (f:RF):(Js3 f).length=f.len:=by simp[Js3,Jq4]
theorem Kgz (nm:List UInt8) (kd:Int) (s:List UInt8) (g:Int) (e:Node) (kids:RF) (hv:kids.enc.length<=849999999999):Tb cx 132 [.eptr [.sl (rowL ((RT.mk kd s g e kids).enc nm))]] (Js3 kids):=by
 have hl:=Jq7 kids;generalize hvv:(RT.mk kd s g e kids).enc nm=v;have h0:v.drop 0=⟨kd,kids.len,nm,s,g,e⟩ :: kids.enc:=by rw[<- hvv,Jqs];rfl
 have hg0:=Js5 h0;rw[Jr5] at hg0;have hvl:v.length=kids.enc.length+1:=by rw[<- hvv,Jqs];rfl
 (refine Juw (X:=cx) func132 kr rfl kr (by simp only[Eaf,Ebe,ntmps132];decide) fun l=>?_;refine N9 _ _ _ _ ?_;simp only[ntmps132,go_sem,simprocAttr,hg0]);refine JWP.loop (fun x:Nat×Nat×RF=>(some x.1,⟨Ba 45 [(0,.yld l),(1,.eptr [.sl (rowL v)]),(3,.p (.int .i64 x.2.1)),(10,.p (.int .i64 kids.len)),(11,.p (.int .i64 x.1))],[]⟩)) (fun x=>x.1+x.2.2.len=kids.len/\v.drop x.2.1=x.2.2.enc/\x.2.1+x.2.2.enc.length=v.length/\(Js3 kids).drop x.1=Js3 x.2.2) (fun x=>x.2.2.enc.length) (0,1,kids) rfl Jqc ⟨by simp,by rw[<- hvv,Jqs];rfl,by simp only;omega,rfl⟩ ?_;rintro ⟨k,j,F⟩ ⟨h1,h2,h3,h4⟩;simp only at h1 h2 h3 h4 ⊢
 match F,h1,h2,h3,h4 with
 | .nil,h1,h2,h3,h4 =>
  simp only[RF.len] at h1;have c1:((k:Int)<(kids.len:Int))=False:=eq_false omg;(refine N9 _ _ _ _ ?_;simp only[go_sem,simprocAttr,c1]);rw[Jyp];exact .inl (by first|(congr 1;done)|(congr 1;omega))
 | .cons nm' (.mk k' s' g' e' kids') r,h1,h2,h3,h4 =>
  rw[Jve] at h1;rw[Jqv] at h2 h3;rw[Eac] at h3;have hs:=J4p h2;rw[Jqs] at h3;simp only[Eaf] at h3;have hs':((rowL v).drop j).take (j+((RT.mk k' s' g' e' kids').enc nm').length - j)=[.int .i64 k',.int .i64 kids'.len,.str nm',.str s',.int .i64 g',.int .i64 e'.kind,.int .i64 e'.many,.str e'.name,.str e'.s,.bool e'.neg,.int .i64 e'.e] :: rowL kids'.enc:=by
   rw[Ecg,hs,Jqs,Jxf,Jr5]
  have h2':=h2;rw[Jqs] at h2';have hg:=Js5 h2';rw[Jr5] at hg;have hel:((RT.mk k' s' g' e' kids').enc nm').length=kids'.enc.length+1:=by rw[Jqs];rfl
  have h6:∀ q∈[.int .i64 k',.int .i64 kids'.len,.str nm',.str s',.int .i64 g',.int .i64 e'.kind,.int .i64 e'.many,.str e'.name,.str e'.s,.bool e'.neg,.int .i64 e'.e] :: rowL kids'.enc,q.length=11:=fun q hq=>J1h ((RT.mk k' s' g' e' kids').enc nm') q (by rw[Jqs];exact hq)
  have htk:(rowL kids'.enc).take kids'.enc.length=rowL kids'.enc:=Ead sm;have c1:((k:Int)<(kids.len:Int))=True:=eq_true omg;(refine N9 _ _ _ _ ?_;simp only[go_sem,simprocAttr,c1,wj1 (i:=k) omg]);refine JWP.loop (fun x:Nat×Nat×RF=>(some k,⟨Ba 45 [(0,.yld l),(1,.eptr [.sl (rowL v)]),(3,.p (.int .i64 j)),(4,.p (.int .i64 x.1)),(5,.p (.int .i64 x.2.1)),(10,.p (.int .i64 kids.len)),(11,.p (.int .i64 k))],[]⟩)) (fun x=>x.2.1=x.2.2.len/\v.drop x.1=x.2.2.enc ++ r.enc/\x.1+x.2.2.enc.length=j+((RT.mk k' s' g' e' kids').enc nm').length) (fun x=>x.2.2.enc.length) (j,1,.cons nm' (.mk k' s' g' e' kids') .nil) rfl Jqc ⟨rfl,by simp[Jqv,Jsd,h2],by simp[Jqv,Jsd]⟩ ?_;rintro ⟨i,left,G⟩ ⟨p0,p1,p2⟩;simp only at p0 p1 p2
  match G,p0,p1,p2 with
  | .nil,p0,p1,p2 =>
   rw[Jsd] at p2;simp only[Ebe,Nat.add_zero] at p2;simp only[RF.len] at p0;subst p0;subst p2;(refine N9 _ _ _ _ ?_;simp only[go_sem,simprocAttr,hs',Jq0,wj1 (i:=k) omg]);(repeat'(first|(refine And.intro (J1h _) ?_)|refine Jqj ?_|((refine Jqa (Kdr _ _ h6 (by rw[Jq0];omega)) ?_);simp only[go_sem,simprocAttr,htk,Eaj,hg,Jq0,wj1 (i:=k) omg])|fail));refine ⟨?_,⟨(k+1,j+((RT.mk k' s' g' e' kids').enc nm').length,r),⟨by simp only;omega,by simp only;rw[<- Ea7,h2,Ecm],by simp only;omega,by simp only;rw[<- Ea7,h4];rfl⟩,by simp only[Jqv,Eac];omega,rfl,Jqc⟩,.inr trivial⟩;have:=congrArg (·[0]?) h4;simp only[Ecp,Nat.add_zero] at this;rw[this];simp[Js3,RF.list,Jqs,Jxf,Jr5]
  | .cons nm2 (.mk k2 s2 g2 e2 kids2) r2,p0,p1,p2 =>
   rw[Jve] at p0;rw[Jqv,Jqs] at p1 p2;have hg2:=Js5 p1;rw[Jr5] at hg2;simp only[Eaf,Eac] at p2;have hl1:=Jq7 kids2;have hl2:=Jq7 r2;have w0:IntKind.i64.wrap ((kids2.len:Int) - 1)=(kids2.len:Int) - 1:=Aa omg omg;have w1:IntKind.i64.wrap ((left:Int)+((kids2.len:Int) - 1))=((r2.len+kids2.len:Nat):Int):=by rw[Aa omg omg];omega
   have c2:((0:Int)<(left:Int))=True:=eq_true omg;(refine N9 _ _ _ _ ?_;simp only[go_sem,simprocAttr,wj1 (i:=k) omg,c2,wj1 (i:=i) omg,hg2,w0,w1])
   all_goals exact ⟨(i+1,r2.len+kids2.len,kids2.app r2),⟨by simp only[Jsr];omega,by
    simp only[Jq6];rw[<- Ea7,p1];simp,by simp only[Jq6,Eac];omega⟩,by simp only[Jq6,Jqv,Jqs,Eac,Eaf];omega,Jqc⟩
theorem J6s {f:RF} {k:Nat} {x:List PV} (h:(Js3 f)[k]? = some x):∃ p,f.list[k]? = some p/\x=[.str p.1,.sl (rowL (p.2.enc []))]:=by
 unfold Js3 at h;rw[Eal] at h;obtain ⟨p,h1,h2⟩:=Eak.1 h;exact ⟨p,h1,h2.symm⟩
theorem J6b {f:RF} {x:List PV} (h:x∈Js3 f):x.length=2:=by
 obtain ⟨p,_,rfl⟩:=Eav.1 h;rfl
theorem J1o (nm:List UInt8) (kd:Int) (s:List UInt8) (g:Int) (e:Node) (kids:RF) (hv:kids.enc.length<=849999999999):Det cx 35 [.p (.sl (rowL ((RT.mk kd s g e kids).enc nm)))] [] (.p (.sl (Jrk kids.list))) []:=by
 (refine bgo func35 ?_;simp only[go_sem,simprocAttr]);(repeat'(first|((refine Jqa (Kgj _) ?_);simp only[go_sem,simprocAttr])|fail));(refine SWP.range (Js3 kids) 15 [(13,900)] sm _ _ _ _ _ (fun k R=>R=if k=0 then [(1000,.var 39 [.p .snil])] else [(900,.row 23 1 (Jrk (kids.list.take k))),(1000,.var 39 [.own 900 0 k])]) (fun _ _=>False) (by rfl) (by rfl) (by rfl) (Kgz nm kd s g e kids hv) (by simp only[go_sem,simprocAttr]<;>rfl) (by first|rfl | simp[Cg]) sm ?hps (by simp only[go_sem,simprocAttr]<;>rfl) (by simp only[go_sem,simprocAttr]<;>rfl) (by simp only[go_sem,simprocAttr]<;>rfl) ?h0 ?hkI ?hkS ?hSn ?round ?done ?stop)
 case hps=>exact fun x hx=>J6b hx
 case h0=>rfl
 case hkI=>rintro k R rfl;split<;>simp[Hg,findKey]
 case hkS=>exact fun _ _ h=>h.elim
 case hSn=>exact fun _ h=>h
 case stop=>exact fun _ _ h=>h.elim
 case round =>
  rintro k x R l hx rfl;obtain ⟨p,hp,rfl⟩:=J6s hx;by_cases hk:k=0
  ·subst hk;rw[if_pos rfl];simp only[go_sem,simprocAttr];(refine lws ?_;simp only[go_sem,simprocAttr]);refine ⟨by simp,_,rfl,?_⟩;rw[Jwq hp];exact (Jqt (by simp only[Ar]) (by simp (disch:=omega) [Az,A3,Aw,Am,Af,Ai,Au,Aa]) (by simp[Ay]))
  ·rw[if_neg hk];have hkl:=(Eab.1 hp).1;rw[Jq4] at hkl;have hll:=Jq7 kids;simp only[go_sem,simprocAttr];(refine lws ?_;simp only[go_sem,simprocAttr]);refine ⟨by simp,by rw[Jrg,Eas,Jq4];omega,omg,omg,_,rfl,?_⟩;rw[Jwq hp];exact (Jqt (by simp only[Ar]) (by simp (disch:=omega) [Az,A3,Aw,Am,Af,Ai,Au,Aa]) (by simp[Ay]))
 case done =>
  rintro R rfl;rw[Jyp];have hll:=Jq4 kids;have hle:=Jq7 kids;by_cases hk:kids.len=0
  ·rw[if_pos hk];have hnil:kids.list=[]:=Ean omg;rw[hnil];simp only[go_sem,simprocAttr];refine ⟨⟨Ba 15 [(3,.ptr 3 0 0)],[(3,.var 39 [.p (.sl [])])]⟩,Jqc,?_⟩;simp only[go_sem,simprocAttr];rfl
  ·rw[if_neg hk];have htk:kids.list.take kids.len=kids.list:=Ead omg;rw[htk];have hpl:(kids.len<=(Jrk kids.list).length)=True:=eq_true (by rw[Jrg];omega);have hpt:(Jrk kids.list).take kids.len=Jrk kids.list:=Ead (by rw[Jrg];omega);simp only[go_sem,simprocAttr];refine ⟨_,St.Le.refl _,?_⟩;simp only[go_sem,simprocAttr,hpl,hpt]
def Kef (f:RT):Prop:=∀ v:Tree,GT v->(v.enc []).length<=450000000000->Det cx 18 [.p (.sl (rowL (f.enc []))),.p (.sl (valL (v.enc [])))] [] (.tup [.bool (resB (Jrf f v)),.int .i64 (resC (Jrf f v))]) []
theorem J25:∀ (n:Nat) (f:RT),(f.enc []).length<=n->okQ f->Jrm f.kind->FitQ f->(f.enc []).length<=150000000000->Kef f
 | 0,f,h,_,_,_,_=>by have:=Jsi f [];omega
 | n+1,.mk op s m c kids,h,ok,hc,hf,hl=>by
  intro v hg hv;obtain ⟨h1,h2,h3⟩:=Jwl.1 ok;have hc:Jrm op:=hc;rw[Jqs,Eaf] at h hl;have hfs:s.length<=1000000:=(hf ⟨op,kids.len,[],s,m,c⟩ (by rw[Jqs];exact Eag)).s;have hg0:(rowL ((RT.mk op s m c kids).enc []))[0]? = some [.int .i64 op,.int .i64 kids.len,.str [],.str s,.int .i64 m,.int .i64 c.kind,.int .i64 c.many,.str c.name,.str c.s,.bool c.neg,.int .i64 c.e]:=by rw[Jqs];rfl
  by_cases o16:op=16
  ·subst o16;have hcp:Js2 c:=by simp[Jqq] at h1;exact h1.2.2.2.2
   have hN:=Kbg hcp;obtain ⟨hpl,hpo⟩:=Jvs s;have hP:=Jz1 s hfs;have hF:=J40 (Je s).1 v omg hpo hg.1 omg;have hR:Jrf (.mk 16 s m c kids) v=match Jrd (Je s).1 v with
    | .error e=>.error e
    | .ok x=>.ok (J0l m (cmpT x (ndT c))):=by
     rw[Jwx];unfold J15;rw[if_pos rfl];cases Jrd (Je s).1 v<;>rfl
   rw[hR];cases hfo:Jrd (Je s).1 v with
   | error e =>
    rw[hfo,getR] at hF;have:=Jsp hfo;subst this;simp only[resB,resC];generalize rowL ((RT.mk 16 s m c kids).enc [])=rows at *
    generalize (Je s).1=P at *
    (refine bgo func18 ?_;simp only[go_sem,simprocAttr,hg0]);(repeat'(first|((first|refine Jqa hP ?_|refine Jqa hF ?_);simp only[go_sem,simprocAttr])|fail))
    all_goals rfl
   | ok x =>
    rw[hfo,getR] at hF;have hC:=Ke2 _ x (ndT c) (Eaj _) (Jxm hg.1 hfo) (J9y hcp) (by have:=Jxh hfo;omega) (by rw[Kbb];omega);have hS:=Khn m (cmpT x (ndT c)) (by simp[Jqq] at h1;omega) (by simp[Jqq] at h1;omega);rw[hN] at hC;simp only[resB,resC];generalize rowL ((RT.mk 16 s m c kids).enc [])=rows at *
    generalize (Je s).1=P at *
    (refine bgo func18 ?_;simp only[go_sem,simprocAttr,hg0]);(repeat'(first|((first|refine Jqm ?_|refine Jqa hP ?_|refine Jqa hF ?_|refine Jqb hC ?_|refine Jqb hS ?_);simp only[go_sem,simprocAttr])|fail))
  ·have hkl:=Jq4 kids;have hll:=Jq7 kids;have h1m:1<=kids.len/\(op≠19->kids.len=2):=by
    obtain ⟨a,b⟩:=hc;have:op=17\/op=18\/op=19:=by omega
    rcases this with rfl | rfl | rfl<;>simp[Jqq] at h1<;>omega
   have hT:=J1o [] op s m c kids omg;have hR:Jrf (.mk op s m c kids) v=match Jrb kids with
    | []=>.ok false
    | h :: hs=>match h v with
     | .error e=>.error e
     | .ok a=>if op=19 then .ok (!a) else if a=decide (op=18) then .ok a else match hs with
      | []=>.ok false
      | h2 :: _=>h2 v:=by
     rw[Jwx];unfold J15;rw[if_neg o16];cases Jrb kids with
     | nil=>rfl
     | cons a l=>cases l<;>(simp only;cases a v<;>rfl)
   rw[Jtr] at hR;have hlen:∀ p∈kids.list,(p.2.enc []).length<=n/\(p.2.enc []).length<=150000000000:=fun p hp=>by
    have:=Jya hp;rw[Jvw p.2 p.1] at this;omega
   have hI:∀ p∈kids.list,Det cx 18 [.p (.sl (rowL (p.2.enc []))),.p (.sl (valL (v.enc [])))] [] (.tup [.bool (resB (Jrf p.2 v)),.int .i64 (resC (Jrf p.2 v))]) []:=fun p hp=>J25 n p.2 (hlen p hp).1 (Jsn.1 h3 p hp) ((h2.1 p hp).1.2 (.inl hc)) (Jsj hf hp).2 (hlen p hp).2 v hg hv
   generalize rowL ((RT.mk op s m c kids).enc [])=rows at *
   cases hks:kids.list with
   | nil=>rw[hks] at hkl;simp only[Ebe] at hkl;omega
   | cons p0 r0 =>
    have I0:=hI p0 (by rw[hks];exact Eag);have g0:(Jrk kids.list)[0]? = some [.sl (rowL (p0.2.enc []))]:=Jr8 (by rw[hks];rfl);rw[hks,Eay] at hR;simp only at hR;rw[hR];have e16:=eq_false o16;cases hh:Jrf p0.2 v with
    | error e =>
     have:=Jvh _ _ _ _ (Eaj _) hh;subst this;rw[hh] at I0;simp only[resB,resC] at I0 ⊢;(refine bgo func18 ?_;simp only[go_sem,simprocAttr,hg0,e16]);(repeat'(first|((first|refine Jqa hT ?_|refine Jqa I0 ?_);simp only[go_sem,simprocAttr,g0])|fail))
     all_goals rfl
    | ok a =>
     rw[hh] at I0;simp only[resB,resC] at I0;by_cases o19:op=19
     ·subst o19;change Det cx _ _ _ (.tup [.bool (!a),.int .i64 0]) _;(refine bgo func18 ?_;simp only[go_sem,simprocAttr,hg0]);(repeat'(first|((first|refine Jqa hT ?_|refine Jqa I0 ?_);simp only[go_sem,simprocAttr,g0])|fail))
      all_goals rfl
     ·have o78:op=17\/op=18:=by obtain ⟨x,y⟩:=hc;omega
      cases r0 with
      | nil =>
       have:=h1m.2 o19;rw[hks] at hkl;simp only[Eaf,Ebe] at hkl;omega
      | cons p1 r1 =>
       have I1:=hI p1 (by rw[hks];exact Eah _ Eag);have g1:(Jrk kids.list)[1]? = some [.sl (rowL (p1.2.enc []))]:=Jr8 (by rw[hks];rfl);rcases o78 with rfl | rfl
       ·cases a with
        | false =>
         change Det cx _ _ _ (.tup [.bool false,.int .i64 0]) _;(refine bgo func18 ?_;simp only[go_sem,simprocAttr,hg0]);(repeat'(first|((first|refine Jqa hT ?_|refine Jqa I0 ?_);simp only[go_sem,simprocAttr,g0])|fail))
         all_goals rfl
        | true =>
         change Det cx _ _ _ (.tup [.bool (resB (Jrf p1.2 v)),.int .i64 (resC (Jrf p1.2 v))]) _;(refine bgo func18 ?_;simp only[go_sem,simprocAttr,hg0]);(repeat'(first|((first|refine Jqa hT ?_|refine Jqa I0 ?_|refine Jqa I1 ?_);simp only[go_sem,simprocAttr,g0,g1])|fail))
         all_goals rfl
       ·cases a with
        | true =>
         change Det cx _ _ _ (.tup [.bool true,.int .i64 0]) _;(refine bgo func18 ?_;simp only[go_sem,simprocAttr,hg0]);(repeat'(first|((first|refine Jqa hT ?_|refine Jqa I0 ?_);simp only[go_sem,simprocAttr,g0])|fail))
         all_goals rfl
        | false =>
         change Det cx _ _ _ (.tup [.bool (resB (Jrf p1.2 v)),.int .i64 (resC (Jrf p1.2 v))]) _;(refine bgo func18 ?_;simp only[go_sem,simprocAttr,hg0]);(repeat'(first|((first|refine Jqa hT ?_|refine Jqa I0 ?_|refine Jqa I1 ?_);simp only[go_sem,simprocAttr,g0,g1])|fail))
         all_goals rfl
end Go.LX
namespace Go.LX
open Go Go.RowKit Go.Proofs
attribute [local irreducible] Al SWP Bi
theorem J7d (rs:List Int):(rs.flatMap fun n=>(Utf8.encode n).data.toList)=utfs rs:=by simp only[R8];rfl
def runR (rs:List Int):List (List PV):=rs.map fun n=>[.int .i32 n]
@[simp] theorem Jyw (rs:List Int):(runR rs).length=rs.length:=by simp[runR]
theorem Ka4 {rs:List Int}:Jui (runR rs)=some rs:=J0r
theorem Kcr (rs:List Int):(runR rs).take rs.length=runR rs:=Ead sm
theorem Jsx (l:List (List UInt8)):(strL l).length=l.length:=by simp[strL]
end Go.LX
namespace Go.Proofs
open Go.Shelf
end Go.Proofs
set_option maxRecDepth 100000
set_option maxHeartbeats 2000000
namespace Go.LX
open Go Go.RowKit Go.Proofs Go.Proofs.Tryz
attribute [local irreducible] Al SWP Bi
attribute [go_sem] ntmps89 results89 ntmps135 results135
end Go.LX
namespace Go.Proofs
open Go.Shelf
end Go.Proofs
set_option maxRecDepth 100000
set_option maxHeartbeats 2000000
namespace Go.LX
open Go Go.RowKit Go.Proofs
attribute [local irreducible] Al SWP Bi
end Go.LX
namespace Go.LX
open Go Go.RowKit Go.Proofs
attribute [local irreducible] Al SWP Bi
end Go.LX
namespace Go.LX
open Go Go.RowKit Go.Proofs
def farC:L->Bool
 | .p _=>true
 | .eptr _=>true
 | .fn _ []=>true
 | .tup _=>true
 | _=>false
section
variable {X:Cx} {ro:Option Nat} {ops:Array Oper}
def Ke5 (o:Oper):Bool:=o.guard.isNone && match o.op with
 | .move _=>true
 | .extract ..=>true
 | .call { callee:=.value _,args:=_,argTypes:=_ }=>true
 | _=>false
def Kg6 (s:St) (o:Oper):Prop:=∀ x∈o.op.operands.toList,farC (s.get x)=true/\(Ke5 o=true\/farL (s.get x)=true)
def lTakeC (X:Cx) (ds:List (Option Tmp)) (ops:List Oper) (E:St->Prop):List Nat->St->Prop
 | [],s=>E s
 | i :: I,s=>match ops[i]? with
  | some o=>Kg6 s o/\YS X ds s o fun l=>farC l=true/\lTakeC X ds ops E I (s.put o.dst l)
  | none=>False
def takeCB (ops:Array Oper) (k:Nat):List Nat->Array Bool->Bool
 | [],_=>true
 | i :: I,listed=>(Region.ready .any ops listed).contains i && (Region.free .any ops listed i && (decide (i<k) && ((match ops[i]? with | some o=>Jwf o || Ke5 o | none=>false) && ((List.range ops.size).all (fun j=>decide (j<k) || (ancB .any ops ops.size i j || match ops[j]? with | some o=>Jv5 o || Jwk o | none=>false)) && takeCB ops k I (listed.setIfInBounds i true)))))
end
section
variable {X:Cx} {ds:List (Option Tmp)} {t:List L} {r:Regs} {E:St->Prop} {dst:Option Tmp} {ty:TypeId} {ps:String} {af:Array Edge} {g:Option (Nat×Bool)}
def kfarC (dst:Option Tmp) (C:St->Prop) (s:St) (l:L):Prop:=farC l=true/\C (s.put dst l)
theorem far_of {l:L}:(farC l=true/\farL l=true)=(farL l=true):=by
 cases l<;>simp[farC,farL]
end
attribute [local irreducible] Al Bi SWP
end Go.LX
namespace Go.LX
open Go Go.RowKit Go.Proofs
theorem SWP.seq {X:Cx} {ro:Option Nat} {x y:Code} {Q:Ex->St->Prop} {s:St} (h:SWP X ro x (kseq (fun Q s=>SWP X ro y Q s) Q) s):SWP X ro (x.seq y) Q s:=fun Γ a w hG hr=>by
 refine wpIn_seq (wpIn_mono (h Γ a w hG hr) fun e a w hq=>?_);cases e with
 | normal=>obtain ⟨s',h1,h2⟩:=hq;exact h1 Γ a w hG h2
 | exit id=>exact hq
 | ret=>exact hq
 | goto l=>exact hq.elim
 | panic c=>exact hq.elim
 | outgrown=>exact hq.elim
theorem Al.same {X Y:Cx} {f:FuncId} {args:List L} {rs:Regs} {Post:L->Regs->Prop} (hP:X.P=Y.P) (hG:X.G=Y.G) (h:Al Y f args rs Post):Al X f args rs Post:=by
 unfold Al at h ⊢;rw[hP,hG];exact h
end Go.LX
namespace Go.LX
open Go Go.RowKit Go.Proofs Go.Proofs.Tryz
attribute [local irreducible] Al SWP Bi
noncomputable def cxg:Cx:=⟨Tryz.prog,QuoteG,QuoteG.mono,Kfa,fun t=>t == 103⟩
theorem Jxs:cxg.P=Tryz.prog:=(rfl)
theorem J8r {f:Nat}:cxg.kind f=cx.kind f:=(rfl)
theorem J20 {t:Nat}:cxg.keep t=(t == 103):=(rfl)
def grpL (o:List (List Nat)) (m:Nat):List (List L):=(o.map fun g=>[L.p (.sl (natL g))]) ++ [[.own 50 0 m]]
theorem Jwy {e:Nat} (he:e≠50) (o:List (List Nat)) (m:Nat):(grpL o m).map (fun x=>x.map (L.forget e))=grpL o m:=by
 unfold grpL;rw[Eb9,Eck];congr 1;simp[L.forget,L.mentions,Ne.symm he]
theorem Ke4 (o:List (List Nat)) (m:Nat):(grpL o m).map (fun x=>x.map (L.forget 39))=grpL o m:=Jwy de o m
theorem Kfo (o:List (List Nat)) (m:Nat):(grpL o m).map (fun x=>x.map (L.forget 40))=grpL o m:=Jwy de o m
theorem Ker (o:List (List Nat)) (m:Nat):(grpL o m).map (fun x=>x.map (L.forget 49))=grpL o m:=Jwy de o m
def grpJ (o:List (List Nat)):List (List L):=(o.map fun g=>[L.p (.sl (natL g))]) ++ [[.junk]]
theorem Kd5 (o:List (List Nat)) (m:Nat):(grpL o m).map (fun x=>x.map (L.forget 50))=grpJ o:=by
 unfold grpL grpJ;rw[Eb9,Eck];congr 1
theorem Kex (o:List (List Nat)):(grpJ o).map (fun x=>x.map (L.forget 50))=grpJ o:=by
 unfold grpJ;rw[Eb9,Eck];congr 1
theorem Kd7 (o:List (List Nat)):(grpJ o)[o.length]? = some [.junk]:=by
 unfold grpJ;rw[Eaq sm];simp
theorem Kee (o:List (List Nat)) (m:Nat):(grpJ o).set o.length [.own 50 0 m]=grpL o m:=by
 unfold grpJ grpL;rw[List.set_append_right _ _ sm];simp
theorem Kb2 (o:List (List Nat)) (m:Nat):Jvk 41 (grpL o m)=true:=by
 simp[Jvk,grpL,L.mentions]
theorem J5g:∀ l:List L,Aw l l
 | []=>trivial
 | a :: l=>⟨Ai a,J5g l⟩
@[
 simp] theorem Kch:∀ l:List (List L),Jbp l l
 | []=>trivial
 | e :: l=>⟨J5g e,Kch l⟩
attribute [go_sem] ntmps96 results96
end Go.LX
namespace Go.LX
open Go Go.RowKit Go.Proofs
attribute [local irreducible] Al SWP Bi
end Go.LX
namespace Go.LX
open Go
def nmT (s:List UInt8):List UInt8:=if isWd s then s else refQ s
def scalT (c:Node):List UInt8:=if c.kind=0 then [110,117,108,108] else if c.kind=1 then [102,97,108,115,101] else if c.kind=2 then [116,114,117,101] else if c.kind=3 then Keq c else refQ c.s
def signT (n:Int):List UInt8:=if n=0 then [61,61] else if n=1 then [33,61] else if n=2 then [60] else if n=3 then [60,61] else if n=4 then [62] else [62,61]
def callN (op:Int):List UInt8:=if op=5 then [109,97,112] else if op=6 then [109,97,112,95,118,97,108,117,101,115] else if op=7 then [115,101,108,101,99,116] else if op=12 then [103,114,111,117,112,95,98,121] else if op=13 then [115,111,114,116,95,98,121] else if op=15 then [100,101,108] else []
def inBr (k:Int) (x:List UInt8):List UInt8:=if k=4\/k=17\/k=18 then 40 :: (x ++ [41]) else x
def Kej (sep:List UInt8):List (List UInt8)->List UInt8
 | []=>[]
 | [x]=>x
 | x :: y :: l=>x ++ sep ++ Kej sep (y :: l)
abbrev PTx:=List UInt8×Int×List UInt8
def oneT (op:Int) (p:PTx):List UInt8:=if op=8 then nmT p.1 ++ [58,32] ++ inBr p.2.1 p.2.2 else inBr p.2.1 p.2.2
def Kbl (op:Int) (l:List PTx) (sep:List UInt8):List UInt8:=Kej sep (l.map (oneT op))
def Kdq:List PTx->List UInt8
 | []=>[]
 | p :: _=>p.2.2
def qtextK (op:Int) (s:List UInt8) (n:Int) (c:Node) (l:List PTx):List UInt8 :=
 if op=0 then [46]
 else if op=1 then 46 :: nmT s
 else if op=2 then [46,91] ++ Lib.itoa n ++ [93]
 else if op=3 then [46,91] ++ Lib.itoa n ++ [58,93]
 else if op=4 then (match l with
  | [p,q]=>inBr p.2.1 p.2.2 ++ [32,124,32] ++ q.2.2
  | _=>[])
 else if op=8 then 123 :: (Kbl op l [44,32] ++ [125])
 else if op=9 then 91 :: (Kbl op l [44,32] ++ [93])
 else if op=10 then [116,111,95,101,110,116,114,105,101,115]
 else if op=11 then [102,114,111,109,95,101,110,116,114,105,101,115]
 else if op=14 then [114,101,118,101,114,115,101]
 else if op=16 then s ++ [32] ++ signT n ++ [32] ++ scalT c
 else if op=17 then Kbl op l [32,97,110,100,32]
 else if op=18 then Kbl op l [32,111,114,32]
 else if op=19 then 40 :: (Kdq l ++ [32,124,32,110,111,116,41])
 else callN op ++ [40] ++ (if l=[] then s else Kdq l) ++ [41]
mutual
def qtext:RT->List UInt8
 | .mk k s n c kids=>qtextK k s n c (Kff kids)
def Kff:RF->List PTx
 | .nil=>[]
 | .cons nm t r=>(nm,t.kind,qtext t) :: Kff r
end
def sumT (l:List (List UInt8)):Nat:=(l.map List.length).sum
theorem repL_len (n:Nat):(Lib.repeatL [48] n).length=n:=by rw[Lib.repeatL_length];simp
def sumP (l:List PTx):Nat:=(l.map fun p=>p.2.2.length).sum
def two (a b:RT):RT:=.mk 4 [] 0 Juf (.cons [] a (.cons [] b .nil))
end Go.LX
namespace Go.LX
open Go Go.RowKit Go.Proofs
attribute [local irreducible] Al SWP Bi
theorem Ke1 (x:Step):Jrc x nilT=.ok nilT:=by unfold Jrc;exact if_pos rfl
theorem Kfz {l:List KT} {x:Step} (hp:x.part=false):Jrc x (nd 6 l)=.ok ((Ch x.name l).getD nilT):=by
 obtain ⟨b,nm,n⟩:=x;simp only at hp;subst hp;unfold nd;rw[Jw4,Hd]
theorem Keb {l:List KT} {x:Step} (hp:x.part=false):J01 (nd 6 l) x=nd 6 (A8 x.name l):=by
 unfold nd;rw[J01,if_neg (by rw[hp];decide),Hd];rfl
theorem Kd0 {x:Step} {p:List Step} {t:Tree}:delT (x :: p) t=if t.kind=0 then .ok t else match inT t x with
  | .error e=>if e=6 then .ok t else .error 5
  | .ok u=>if p=[] then .ok (J01 t x) else match delT p u with
   | .error e=>.error e
   | .ok w=>setT [x] t w:=by rw[delT];rfl
end Go.LX
namespace Go.LX
open Go Go.RowKit Go.Proofs Go.Proofs.Tryz
attribute [local irreducible] Al SWP Bi
def fldA:RT:=.mk 1 [97] 0 Juf .nil
def cmpA:RT:=.mk 16 [46,97] 5 ⟨3,0,[],[49],false,0⟩ .nil
theorem Khz (v:Tree):Jql fldA v=Jrc ⟨false,[97],0⟩ v:=by unfold fldA;rw[Jww];rfl
theorem Kjc (v:Tree) (hg:GT v) (hv:(v.enc []).length<=1000):Det cx 12 [.p (.sl (rowL (fldA.enc []))),.p (.sl (valL (v.enc [])))] [] (getR (Jql fldA v)) []:=by
 have hT:=J1o [] 1 [97] 0 Juf .nil de;have hF:=Kbd ⟨false,[97],0⟩ v de hg.1 omg;have hg0:(rowL ((RT.mk 1 [97] 0 Juf .nil).enc []))[0]? = some [.int .i64 1,.int .i64 0,.str [],.str [97],.int .i64 0,.int .i64 0,.int .i64 0,.str [],.str [],.bool false,.int .i64 0]:=rfl;rw[Khz];unfold fldA;rw[Jqz] at hF ⊢;generalize rowL ((RT.mk 1 [97] 0 Juf .nil).enc [])=rows at *
 (refine bgo func12 ?_;simp only[go_sem,simprocAttr,hg0]);(repeat'(first|((first|refine Jqa hT ?_|refine Jqa hF ?_);simp only[go_sem,simprocAttr])|fail))
theorem ev_cmp (v:Tree) (hg:GT v) (hv:(v.enc []).length<=1000):Det cx 18 [.p (.sl (rowL (cmpA.enc []))),.p (.sl (valL (v.enc [])))] [] (.tup [.bool (resB (Jrf cmpA v)),.int .i64 (resC (Jrf cmpA v))]) []:=by
 have hcp:Js2 ⟨3,0,[],[49],false,0⟩:=by decide +kernel
 have hN:=Kbg hcp;obtain ⟨hpl,hpo⟩:=Jvs [46,97];have hP:=Jz1 [46,97] de;have hF:=J40 (Je [46,97]).1 v omg hpo hg.1 omg;have hR:Jrf cmpA v=match Jrd (Je [46,97]).1 v with
  | .error e=>.error e
  | .ok x=>.ok (J0l 5 (cmpT x (ndT ⟨3,0,[],[49],false,0⟩))):=by
  unfold cmpA;rw[Jwx];unfold J15;rw[if_pos rfl];cases Jrd (Je [46,97]).1 v<;>rfl
 have hg0:(rowL (cmpA.enc []))[0]? = some [.int .i64 16,.int .i64 0,.str [],.str [46,97],.int .i64 5,.int .i64 3,.int .i64 0,.str [],.str [49],.bool false,.int .i64 0]:=rfl;rw[hR];cases hfo:Jrd (Je [46,97]).1 v with
 | error e =>
  rw[hfo,getR] at hF;have:=Jsp hfo;subst this;simp only[resB,resC];generalize rowL (cmpA.enc [])=rows at *
  generalize (Je [46,97]).1=P at *
  (refine bgo func18 ?_;simp only[go_sem,simprocAttr,hg0]);(repeat'(first|((first|refine Jqa hP ?_|refine Jqa hF ?_);simp only[go_sem,simprocAttr])|fail))
  all_goals rfl
 | ok x =>
  rw[hfo,getR] at hF;have hC:=Ke2 _ x (ndT ⟨3,0,[],[49],false,0⟩) (Eaj _) (Jxm hg.1 hfo) (J9y hcp) (by have:=Jxh hfo;omega) (by rw[Kbb];omega);have hS:=Khn 5 (cmpT x (ndT ⟨3,0,[],[49],false,0⟩)) omg omg;rw[hN] at hC;simp only[resB,resC];generalize rowL (cmpA.enc [])=rows at *
  generalize (Je [46,97]).1=P at *
  (refine bgo func18 ?_;simp only[go_sem,simprocAttr,hg0]);(repeat'(first|((first|refine Jqm ?_|refine Jqa hP ?_|refine Jqa hF ?_|refine Jqb hC ?_|refine Jqb hS ?_);simp only[go_sem,simprocAttr])|fail))
end Go.LX
