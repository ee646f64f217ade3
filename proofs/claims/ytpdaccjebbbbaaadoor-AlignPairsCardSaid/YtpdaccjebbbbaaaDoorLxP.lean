/- Values: lists of some. -/
import Derived.Test.YtpdaccjebbbbaaaDoorLxN
import Derived.Test.YtpdaccjebbbbaaaDoorLxO
import Derived.Test.YtpdaccjebbbbaaaDoorLxL
import Derived.OpenShut
import Derived.WideKeyArgs
import Derived.Below
import Derived.ProofKit
import Derived.WalkKit
import Derived.ChangeSame
import Derived.Deep.DeepHandedRow
import Derived.Deep.Slices
import Derived.SizedLaws
import Derived.Test.YtpdaccjebbbbaaaDoorCards
import Derived.Test.YtpdaccjebbbbaaaDoorTie
import Derived.Deep.DeepWitnessRowRef
import Derived.Lib.LaidIn
import Derived.Lib.LaidU8T
import Derived.Lib.LaidTab
set_option linter.unusedSimpArgs false
set_option linter.unusedVariables false
set_option linter.unusedSectionVars false
set_option linter.unnecessarySimpa false
set_option maxRecDepth 100000
set_option maxHeartbeats 2000000
namespace Go.LX
open Go Go.RowKit Go.Proofs
attribute [local irreducible] Al SWP Bi
theorem Jfu {s:List UInt8} {i:Nat} (h:i<s.length):Pk (s.take (i+1))=(Pk (s.take i) && (decide (48≤at_ s i) && decide (at_ s i≤57))):=by
 simp only [Pk,List.take_add_one,List.getElem?_eq_getElem h,List.all_append,Ql h];simp [Ja8]
theorem Qp {s:List UInt8} {i:Nat} (h:i<s.length) (hb:at_ s i<48∨57<at_ s i):Pk s=false:=by
 simp only [Pk,List.all_eq_false];rw [Ql h] at hb;exact ⟨s[i],List.getElem_mem h,by simp [Ja8];omega⟩
theorem Jj5 (s:List UInt8) (hs:s.length≤9223372036854775807):Det cx 56 [.p (.str s)] [] (.p (.bool (Pk s))) []:=by
 (refine bgo Tryd.func56 ?_;simp only [go_sem,simprocAttr]);refine SWP.loop (fun i:Nat=>⟨Ba 20 [(0,.p (.str s)),(3,.p (.int .i64 i))],[]⟩) (fun i=>i≤s.length∧Pk (s.take i)=true) (fun i=>s.length - i) 0 Jqd ⟨Nat.zero_le _,rfl⟩ ?_;rintro i ⟨h1,h2⟩;(refine lws ?_;simp only [go_sem,simprocAttr]);(repeat' (first | (apply iteI <;> intro h)|(refine Jqs ?_) | fail))
 ·exact (Qp (i:=i) omg omg).symm
 ·exact (Qp (i:=i) omg omg).symm
 ·refine ⟨i+1,⟨by omega,?_⟩,by omega,Jqd⟩;rw [Jfu omg,h2];simp;omega
 ·rw [List.take_of_length_le omg] at h2;exact h2.symm
theorem M0 (many:Int) (s:List UInt8) (g:Bool) (e:Int) (hs:s.length≤1000000) (he:-9223372036854775808≤e) (he':e≤9223372036854775807):Det cx 47 [.p (.agg [.int .i64 3,.int .i64 many,.str [],.str s,.bool g,.int .i64 e])] [] (.p (.bool (decide (many=0∧Yz s g e)))) []:=by
 (refine bgo Tryd.func47 ?_;simp only [go_sem,simprocAttr]);(repeat' (first | (apply iteI <;> intro h)|(refine Jqs ?_)|((refine Jqa (Jj5 _ omg) ?_);simp only [go_sem,simprocAttr]) | fail))
 all_goals (try simp (disch:=omega) only [Aa,Qs,Ab,Jlh,Mf,Ja0,Jcc,Ja7,Jak] at *)
 all_goals (try rw [show (↑s.length - 1:Int).toNat=s.length - 1 by omega] at *)
 all_goals (rw [Bool.eq_iff_iff])
 all_goals (have hs0:s.length=0 ↔ s=[]:=List.length_eq_zero_iff)
 all_goals (simp only [Yz,decide_eq_true_eq,beq_iff_eq,bne_iff_ne,Bool.false_eq_true,false_iff])
 all_goals (by_cases h0:s=[])
 all_goals (simp only [h0,if_true,if_false] at *)
 all_goals (first | omega | (simp_all <;> omega) | skip)
theorem Ja1 (k m:Int) (nm s:List UInt8) (g:Bool) (e:Int) (hs:s.length≤1000000) (he:-9223372036854775808≤e) (he':e≤9223372036854775807):Det cx 38 [.p (.agg [.int .i64 k,.int .i64 m,.str nm,.str s,.bool g,.int .i64 e])] [] (.p (.bool (decide (G3 k s g e m)))) []:=by
 by_cases hk:k=3
 ·subst hk;(refine bgo Tryd.func38 ?_;simp only [go_sem,simprocAttr]);(repeat' (first | ((refine Jqa (M0 m s g e hs he he') ?_);simp only [go_sem,simprocAttr]) | fail))
  all_goals (first | rfl | (simp [G3];done))
 ·(refine bgo Tryd.func38 ?_;simp only [go_sem,simprocAttr]);(repeat' (first | (apply iteI <;> intro h)|((refine Jqa (Cn s hs) ?_);simp only [go_sem,simprocAttr])|(exfalso;omega)))
  all_goals (rw [Bool.eq_iff_iff])
  all_goals (simp only [G3,decide_eq_true_eq,beq_iff_eq,Bool.and_eq_true,Bool.false_eq_true,false_iff])
  all_goals (first | omega | (simp_all;done)|(simp_all <;> omega))
def nxtR (v:List Node) (i o:Nat):Int:=match nxt v.length (v.drop i) o with
 | some k=>((i+k:Nat):Int)
 | none=>-1
theorem Jha (v:List Node) (i:Nat):nxtR v i 0=i:=by
 unfold nxtR;have:nxt v.length (v.drop i) 0=some 0:=by cases v.drop i <;> rfl
 rw [this];rfl
theorem Jmc {v:List Node} {i o:Nat} (h:v.length≤i) (ho:0<o):nxtR v i o = -1:=by
 unfold nxtR;rw [List.drop_eq_nil_of_le h];cases o with
 | zero=>omega
 | succ o=>rfl
theorem Jlc {v:List Node} {i o:Nat} {n:Node} (h:v[i]? = some n) (ho:0<o) (hb:n.many<0∨(v.length:Int)<n.many):nxtR v i o = -1:=by
 have hi:=(List.getElem?_eq_some_iff.1 h).1;unfold nxtR;rw [List.drop_eq_getElem_cons hi,(List.getElem?_eq_some_iff.1 h).2];cases o with
 | zero=>omega
 | succ o=>simp only [nxt];rw [if_pos hb]
theorem Jfk {v:List Node} {i o:Nat} {n:Node} (h:v[i]? = some n) (hb:¬ (n.many<0∨(v.length:Int)<n.many)):nxtR v i (o+1)=nxtR v (i+1) (o+n.many.toNat):=by
 have hi:=(List.getElem?_eq_some_iff.1 h).1;unfold nxtR;rw [List.drop_eq_getElem_cons hi,(List.getElem?_eq_some_iff.1 h).2];simp only [nxt];rw [if_neg hb];cases nxt v.length (v.drop (i+1)) (o+n.many.toNat) with
 | none=>rfl
 | some k=>simp only [Option.map_some];omega
theorem U5 {v:List Node} {i:Nat} {n:Node} (h:v[i]? = some n):(valL v)[i]? = some [.int .i64 n.kind,.int .i64 n.many,.str n.name,.str n.s,.bool n.neg,.int .i64 n.e]:=by
 simp [valL,h,Node.cells]
theorem Uv (v:List Node) (hv:v.length≤10000):Det cx 37 [.p (.sl (valL v)),.p (.int .i64 0)] [] (.p (.int .i64 (nxtR v 0 1))) []:=by
 (refine bgo Tryd.func37 ?_;simp only [go_sem,simprocAttr]);refine SWP.loop (fun x:Nat×Nat=>⟨Ba 41 [(0,.p (.sl (valL v))),(1,.p (.int .i64 x.1)),(5,.p (.int .i64 x.2))],[]⟩) (fun x=>x.1≤v.length∧x.2≤1+x.1 * 10000∧nxtR v x.1 x.2=nxtR v 0 1) (fun x=>v.length - x.1) (0,1) Jqd ⟨Nat.zero_le _,by simp,rfl⟩ ?_;rintro ⟨i,o⟩ ⟨h1,h2,h3⟩;simp only at h1 h2 h3;by_cases ho:o=0
 ·subst ho;rw [Jha] at h3;(refine lws ?_;simp only [go_sem,simprocAttr]);rw [h3]
 ·have c0:((0:Int)<(o:Int))=True:=eq_true omg;by_cases hi:¬ i<v.length
  ·have c1:((v.length:Int)≤(i:Int))=True:=eq_true omg;rw [Jmc omg omg] at h3;have hg:=c1;have c2:=c1;have c3:=c1;have w1:=c1;have w2:=c1;have w3:=c1;(refine lws ?_;simp only [go_sem,simprocAttr,A7,c0,c1]);rw [← h3]
  ·have hi:=Decidable.not_not.1 hi;have c1:((v.length:Int)≤(i:Int))=False:=eq_false omg;obtain ⟨n,hn⟩:∃ n,v[i]? = some n:=⟨_,List.getElem?_eq_getElem hi⟩
   have hg:=U5 hn;by_cases hb:n.many<0∨(v.length:Int)<n.many
   ·rw [Jlc hn omg hb] at h3;have w1:=c1;have w2:=c1;have w3:=c1;by_cases hb1:n.many<0
    ·have c2:(n.many<0)=True:=eq_true hb1;have c3:=c1;(refine lws ?_;simp only [go_sem,simprocAttr,A7,c0,c1,c2,hg]);rw [← h3]
    ·have c2:(n.many<0)=False:=eq_false hb1;have c3:((v.length:Int)<n.many)=True:=eq_true omg;(refine lws ?_;simp only [go_sem,simprocAttr,A7,c0,c1,c2,c3,hg]);rw [← h3]
   ·have c2:(n.many<0)=False:=eq_false omg;have c3:((v.length:Int)<n.many)=False:=eq_false omg;obtain ⟨o',rfl⟩:∃ o',o=o'+1:=⟨o - 1,by omega⟩
    rw [Jfk hn hb] at h3;have w1:IntKind.i64.wrap (((o'+1:Nat):Int) - 1)=(o':Int):=by rw [Aa omg omg];omega
    have w2:IntKind.i64.wrap ((o':Int)+n.many)=((o'+n.many.toNat:Nat):Int):=by rw [Aa omg omg];omega
    have w3:=wj1 (i:=i) omg;(refine lws ?_;simp only [go_sem,simprocAttr,A7,c0,c1,c2,c3,hg,w1,w2,w3]);exact ⟨(i+1,o'+n.many.toNat),⟨by simp only;omega,by simp only;omega,h3⟩,by simp only;omega,Jqd⟩
theorem P8 {v:List Node} {i:Nat} {n:Node} (h:v[i]? = some n):(valL v)[i]? = some [.int .i64 n.kind,.int .i64 n.many,.str n.name,.str n.s,.bool n.neg,.int .i64 n.e]:=by
 simp [valL,h,Node.cells]
def Uw (x y:Node):Prop:=x.kind=y.kind∧x.many=y.many∧x.name=y.name∧x.s=y.s∧x.neg=y.neg∧x.e=y.e
theorem Qo {x y:Node}:Uw x y ↔ x=y:=by
 unfold Uw;constructor
 ·rintro ⟨h1,h2,h3,h4,h5,h6⟩;cases x;cases y;simp_all
 ·rintro rfl;exact ⟨rfl,rfl,rfl,rfl,rfl,rfl⟩
instance (x y:Node):Decidable (Uw x y):=inferInstanceAs (Decidable (_∧_))
instance:DecidableEq Node:=fun x y=>decidable_of_iff _ (Qo (x:=x) (y:=y))
theorem Jma {x y:Node}:(x.kind == y.kind && (x.many == y.many && (x.name == y.name && (x.s == y.s && (x.neg == y.neg && x.e == y.e)))))=decide (x=y):=by
 rw [Bool.eq_iff_iff,decide_eq_true_eq,← Qo];simp [Uw]
theorem E2 (v u:List Node) (hv:v.length≤1000000) (hu:u.length≤1000000):Det cx 19 [.p (.sl (valL v)),.p (.sl (valL u))] [] (.p (.bool (decide (v=u)))) []:=by
 by_cases hl:v.length=u.length
 ·have c0:((v.length:Int)=(u.length:Int))=True:=eq_true omg;(refine bgo Tryd.func19 ?_;simp only [go_sem,simprocAttr,A7,c0]);refine SWP.loop (fun i:Nat=>⟨Ba 26 [(0,.p (.sl (valL v))),(1,.p (.sl (valL u))),(5,.p (.int .i64 i))],[]⟩) (fun i=>i≤v.length∧v.take i=u.take i) (fun i=>v.length - i) 0 Jqd ⟨Nat.zero_le _,rfl⟩ ?_;rintro i ⟨h1,h3⟩;by_cases hi:¬ i<v.length
  ·have c1:((i:Int)<(v.length:Int))=False:=eq_false omg;have hgx:=c1;have hgy:=c1;(refine lws ?_;simp only [go_sem,simprocAttr,A7,c1]);rw [List.take_of_length_le omg,List.take_of_length_le omg] at h3;exact (decide_eq_true h3).symm
  ·have hi:=Decidable.not_not.1 hi;have c1:((i:Int)<(v.length:Int))=True:=eq_true omg;obtain ⟨x,hx⟩:∃ x,v[i]? = some x:=⟨_,List.getElem?_eq_getElem hi⟩
   obtain ⟨y,hy⟩:∃ y,u[i]? = some y:=⟨_,List.getElem?_eq_getElem omg⟩
   have hgx:=P8 hx;have hgy:=P8 hy;have w1:=wi1 (i:=i) omg;(refine lws ?_;simp only [go_sem,simprocAttr,A7,c1]);(repeat' (first | (apply iteI <;> intro h)|((refine Jqy ?_);simp only [go_sem,simprocAttr,Jma,hgx,hgy,w1]) | fail))
   ·have hxy:=(show ¬ x=y by assumption)
    refine (decide_eq_false fun e=>hxy ?_).symm;subst e;rw [hx] at hy;exact Option.some.inj hy
   ·have hxy:=Decidable.not_not.1 (show ¬ ¬ x=y by assumption);subst hxy;refine ⟨i+1,⟨by omega,?_⟩,by omega,Jqd⟩;rw [List.take_add_one,List.take_add_one,h3,hx,hy]
 ·have c0:((v.length:Int)=(u.length:Int))=False:=eq_false omg;have c1:=c0;have hgx:=c0;have hgy:=c0;have w1:=c0;(refine bgo Tryd.func19 ?_;simp only [go_sem,simprocAttr,A7,c0]);exact (decide_eq_false fun e=>hl (by rw [e])).symm
theorem Z3 (v:List Node) (i:Nat) (nm:List UInt8) (k:Int) (s:List UInt8) (g:Bool) (e:Int) (kids:Forest) (rest:List Node) (hv:v.length≤1000000) (h:v.drop i=(Tree.mk k s g e kids).enc nm ++ rest) (hs:∀ n∈v,n.name.length≤1000000):Det cx 39 [.p (.sl (valL v)),.p (.int .i64 i)] [] (.p (.bool (@decide (Eh k kids.list) (Classical.propDecidable _)))) []:=by
 have hll:=Jqz kids;rw [A6] at h;have hg0:=D5 h;rw [C9] at hg0;have hb:=L9 h sm;simp only [List.cons_append,List.length_cons,List.length_append] at hb;have w0:=wj1 (i:=i) omg;(refine bgo Tryd.func39 ?_;simp only [go_sem,simprocAttr,w0]);refine SWP.loop (fun x:Nat×Nat×Forest=>⟨Ba 75 [(0,.p (.sl (valL v))),(1,.p (.int .i64 i)),(5,.p (.int .i64 x.2.1)),(6,.p (.int .i64 x.1))],[]⟩) (fun x=>x.1+x.2.2.len=kids.len∧v.drop x.2.1=x.2.2.enc ++ rest∧x.2.1+x.2.2.enc.length=i+1+kids.enc.length∧(Eh k kids.list ↔ Eh k x.2.2.list)) (fun x=>x.2.2.enc.length) (0,i+1,kids) Jqd ⟨by simp,by simp only;rw [← List.drop_drop,h];rfl,by simp only,Iff.rfl⟩ ?_;rintro ⟨j,a,F⟩ ⟨h1,h2,h3,h4⟩;simp only at h1 h2 h3 h4
 match F,h1,h2,h3,h4 with
 | .nil,h1,h2,h3,h4 =>
  simp only [Forest.len] at h1;have c1:((j:Int)<(kids.len:Int))=False:=eq_false omg;have hK:=h4.2 (Sb k);have hga:=c1;have w1:=c1;have c7:=c1;have hgb:=c1;(refine lws ?_;simp only [go_sem,simprocAttr,hg0,c1]);exact (@decide_eq_true _ (Classical.propDecidable _) hK).symm
 | .cons nm' t r,h1,h2,h3,h4 =>
  rw [F2] at h1;rw [A0] at h2 h3;have hp:=Et t nm';simp only [List.length_append] at h3;obtain ⟨k',n',s',g',e',hga⟩:∃ k' n' s' g' e',(valL v)[a]? = some [.int .i64 k',.int .i64 n',.str nm',.str s',.bool g',.int .i64 e']:=Mi (t:=t) (b:=r.enc ++ rest) (by rw [h2,List.append_assoc]);have c1:((j:Int)<(kids.len:Int))=True:=eq_true omg;rw [Forest.list,Jaa] at h4;simp only at h4;have w1:=wj1 (i:=j) omg;have hnl:nm'.length≤1000000:=by
   have:v[a]? = some ⟨k',n',nm',s',g',e'⟩:=by
    cases hva:v[a]? with
    | none=>simp [valL,hva] at hga
    | some n =>
     have:=P8 hva;rw [hga] at this;simp only [Option.some.injEq,List.cons.injEq,PV.int.injEq,PV.str.injEq,PV.bool.injEq,true_and,and_true] at this;obtain ⟨h1,h2,h3,h4,h5,h6⟩:=this;congr 1;cases n;simp_all
   exact hs _ (List.mem_of_getElem? this)
  have hNx:=Cs v a nm' t (r.enc ++ rest) hv (by rw [h2,List.append_assoc]);have hno:((k=5→nm'=[])∧valid nm'=true∧(k=6→∀ q,r.list.head? = some q→Op.bytesLess nm' q.1=true)∧Eh k r.list→False)→(false = @decide (Eh k kids.list) (Classical.propDecidable _)):=fun h=>((@decide_eq_false_iff_not _ (Classical.propDecidable _)).2 fun hk=>h (h4.1 hk)).symm
  have hd:v.drop (a+(t.enc nm').length)=r.enc ++ rest:=by rw [← List.drop_drop,h2,List.append_assoc,List.drop_left]
  match r,h1,h2,h3,h4,hNx,hno,hd with
  | .nil,h1,h2,h3,h4,hNx,hno,hd =>
   simp only [Forest.len] at h1;have c7:(((j+1:Nat):Int)<(kids.len:Int))=False:=eq_false omg;have hgb:=c1;(refine lws ?_;simp only [go_sem,simprocAttr,hg0,c1,hga]);(repeat' (first | (apply iteI <;> intro h)|((first | (refine Jqy ?_)|(refine Jqa (Cn nm' hnl) ?_)|(refine Jqa (hNx) ?_));simp only [go_sem,simprocAttr,hg0,w1,c7])|(exfalso;omega)))
   all_goals first
    | (
     refine hno ?_;rintro ⟨a1,a2,a3,a4⟩;have h9:=(show valid nm'=false by assumption)
     rw [a2] at h9;cases h9)
    | (
     refine hno ?_;rintro ⟨a1,a2,a3,a4⟩;clear hno hNx h4 hga hg0 hd h2 hs;simp_all)
    | (
     refine ⟨(j+1,a+(t.enc nm').length,.nil),⟨by simp only [Forest.len];omega,hd,by simp only;omega,h4.trans ⟨fun q=>q.2.2.2,fun q=>⟨?_,?_,fun _ q hq=>(by cases hq),q⟩⟩⟩,by simp only [A0,List.length_append];omega,Jqd⟩
     all_goals (clear hno hNx h4 hga hg0 hd h2 hs;simp_all))
  | .cons nm2 t2 r2,h1,h2,h3,h4,hNx,hno,hd =>
   simp only [Forest.len] at h1;have c7:(((j+1:Nat):Int)<(kids.len:Int))=True:=eq_true omg;obtain ⟨k2,n2,s2,g2,e2,hgb⟩:∃ k' n' s' g' e',(valL v)[a+(t.enc nm').length]? = some [.int .i64 k',.int .i64 n',.str nm2,.str s',.bool g',.int .i64 e']:=Mi (t:=t2) (b:=r2.enc ++ rest) (by rw [hd,A0,List.append_assoc]);(refine lws ?_;simp only [go_sem,simprocAttr,hg0,c1,hga]);(repeat' (first | (apply iteI <;> intro h)|((first | (refine Jqy ?_)|(refine Jqa (Cn nm' hnl) ?_)|(refine Jqa (hNx) ?_));simp only [go_sem,simprocAttr,hg0,hga,w1,c7,hgb])|(exfalso;omega)))
   all_goals first
    | (
     refine hno ?_;rintro ⟨a1,a2,a3,a4⟩;have h9:=(show valid nm'=false by assumption)
     rw [a2] at h9;cases h9)
    | (
     refine hno ?_;rintro ⟨a1,a2,a3,a4⟩;have a5:=fun hk=>a3 hk (nm2,t2) rfl
     clear a3 hno hNx h4 hga hg0 hd h2 hs hgb;simp_all)
    | (
     refine ⟨(j+1,a+(t.enc nm').length,.cons nm2 t2 r2),⟨by simp only [Forest.len];omega,hd,by simp only;omega,h4.trans ⟨fun q=>q.2.2.2,fun q=>⟨?_,?_,fun hk q hq=>?_,q⟩⟩⟩,by simp only [A0,List.length_append];omega,Jqd⟩
     all_goals (clear hno hNx h4 hga hg0 hd h2 hs hgb)
     all_goals first
      | (simp_all;done)
      | (simp only [Forest.list,List.head?_cons,Option.some.injEq] at hq;subst hq;simp_all))
theorem Jda:∀ {a b c d:Forest},a.app b=c.app d→a.len=c.len→a=c∧b=d
 | .nil,b,.nil,d,h,_=>⟨rfl,h⟩
 | .nil,_,.cons _ _ _,_,_,h=>by simp [Forest.len] at h
 | .cons _ _ _,_,.nil,_,_,h=>by simp [Forest.len] at h
 | .cons nm t a,b,.cons nm' t' c,d,h,hl=>by
  rw [Forest.app,Forest.app] at h;injection h with h1 h2 h3
  obtain ⟨rfl,rfl⟩:=Jda (a:=a) (b:=b) (c:=c) (d:=d) h3 (by simpa [Forest.len] using hl);exact ⟨by rw [h1,h2],rfl⟩
theorem W5:∀ (n:Nat) {F G:Forest},F.enc.length≤n→F.len=G.len→F.enc=G.enc→F=G
 | _,.nil,.nil,_,_,_=>rfl
 | _,.nil,.cons _ _ _,_,h,_=>by simp [Forest.len] at h
 | _,.cons _ _ _,.nil,_,h,_=>by simp [Forest.len] at h
 | 0,.cons nm t r,.cons _ _ _,h,_,_=>by
  have:=Et t nm;rw [A0,List.length_append] at h;omega
 | n+1,.cons nm (.mk k s g e kids) r,.cons nm' (.mk k' s' g' e' kids') r',h,hl,he=>by
  rw [A0,A6,List.length_append,List.length_cons] at h;rw [A0,A0,A6,A6,List.cons_append,List.cons_append] at he;injection he with h1 h2
  injection h1 with g1 g2 g3 g4 g5 g6
  rw [← Jql,← Jql] at h2;simp only [Forest.len] at hl;have hk:kids.len=kids'.len:=by omega
  have:=W5 n (F:=kids.app r) (G:=kids'.app r') (by rw [Jql,List.length_append];omega) (by rw [Jq0,Jq0];omega) h2;obtain ⟨rfl,rfl⟩:=Jda this hk;rw [g1,g3,g4,g5,g6]
theorem Jmz {t u:Tree} {a b:List UInt8} (h:t.enc a=u.enc b):a=b∧t=u:=by
 have:=W5 (Forest.cons a t .nil).enc.length (F:=.cons a t .nil) (G:=.cons b u .nil) (Nat.le_refl _) rfl (by rw [A0,A0,h]);injection this with h1 h2 _
 exact ⟨h1,h2⟩
theorem Jf9 {t:Tree}:R0 (t.enc []) ↔ okT t:=by
 constructor
 ·rintro ⟨u,hu,h⟩;obtain ⟨_,rfl⟩:=Jmz h;exact hu
 ·exact fun h=>⟨t,h,rfl⟩
theorem Zg {v:List Node} (h:R0 v):nxtR v 0 1=v.length:=by
 obtain ⟨t,_,rfl⟩:=h;have:=Jcx.2 ⟨[],t,rfl⟩;unfold nxtR;rw [List.drop_zero,this];simp
theorem Jf6 {v:List Node} (h:nxtR v 0 1=v.length):∃ nm t,v=Tree.enc nm t:=by
 refine Jcx.1 ?_;unfold nxtR at h;rw [List.drop_zero] at h;cases hn:nxt v.length v 1 with
 | none=>rw [hn] at h;simp at h
 | some k=>rw [hn] at h;simp at h;rw [show k=v.length by omega]
structure NodeFit (n:Node):Prop where
 s:n.s.length≤1000000
 name:n.name.length≤1000000
 e0:-9223372036854775808≤n.e
 e1:n.e≤9223372036854775807
theorem I8 {v:List Node} (h:¬ R0 v):false=Jw v:=by
 cases hb:Jw v with
 | false=>rfl
 | true=>exact absurd (Iq.1 hb) h
theorem Jp (v:List Node) (hv:v.length≤10000) (hf:∀ n∈v,NodeFit n):Det cx 31 [.p (.sl (valL v))] [] (.p (.bool (Jw v))) []:=by
 cases v with
 | nil =>
  have hb:false=Jw []:=I8 (by
   rintro ⟨t,_,h⟩;have:=congrArg List.length h;have h1:=Et t [];simp at this;omega)
  have hg0:True:=trivial;have c0:=hg0;have c1:=hg0;have c2:=hg0;have c3:=hg0;(refine bgo Tryd.func31 ?_;simp only [go_sem,simprocAttr,A7]);exact hb
 | cons n r =>
  have hg0:=U5 (v:=n :: r) (i:=0) (n:=n) rfl;have c0:(((n :: r).length:Int)=0)=False:=eq_false (by simp;omega);have c1:((0:Int)<((n :: r).length:Int))=True:=eq_true sm;have hN:=Uv (n :: r) hv;generalize hvv:n :: r=v at *
  by_cases hnm:n.name=[]
  ·by_cases hnx:nxtR v 0 1=v.length
   ·obtain ⟨nm,t,ht⟩:=Jf6 hnx;have hnm0:nm=[]:=by
     cases t with
     | mk k s g e kids =>
      rw [A6,← hvv] at ht;have:=(List.cons.inj ht).1;rw [this] at hnm;exact hnm
    subst hnm0;have c2:(n.name=[])=True:=eq_true hnm;have c3:(nxtR v 0 1=(v.length:Int))=True:=eq_true hnx;(refine bgo Tryd.func31 ?_;simp only [go_sem,simprocAttr,A7,hg0,c0,c2]);(repeat' (first | ((refine Jqa (hN) ?_);simp only [go_sem,simprocAttr,A7,c3]) | fail));have hB:∀ b:Bool,(b=true ↔ okT t)→b=Jw v:=by
     intro b hb;rw [Bool.eq_iff_iff,hb,Iq,ht,Jf9]
    have hend:∀ {i:Nat} {F:Forest},i+F.enc.length=v.length→True:=fun _=>trivial
    refine SWP.loop (fun x:Nat×Forest=>⟨Ba 39 [(0,.p (.sl (valL v))),(3,.p (.int .i64 x.1))],[]⟩) (fun x=>v.drop x.1=x.2.enc∧x.1+x.2.enc.length=v.length∧(okT t ↔ okF x.2)) (fun x=>v.length - x.1) (0,.cons [] t .nil) Jqd ⟨by rw [A0,Bl,List.append_nil,List.drop_zero,ht],by rw [A0,Bl,List.append_nil,ht];simp,by rw [Fs];exact ⟨fun h=>⟨h,I6⟩,fun h=>h.1⟩⟩ ?_;rintro ⟨i,F⟩ ⟨h1,h2,h3⟩;simp only at h1 h2 h3
    match F,h1,h2,h3 with
    | .nil,h1,h2,h3 =>
     rw [Bl] at h2;have c4:((i:Int)<(v.length:Int))=False:=eq_false (by simp at h2;omega);have hga:=c4;have w1:=c4;(refine lws ?_;simp only [go_sem,simprocAttr,A7,c4]);exact hB true (by rw [h3];simp [I6])
    | .cons nm' (.mk k s g e kids) r,h1,h2,h3 =>
     rw [A0,A6] at h1 h2;simp only [List.length_append,List.length_cons] at h2;have c4:((i:Int)<(v.length:Int))=True:=eq_true omg;have hga:=D5 h1;rw [C9] at hga;have w1:=wj1 (i:=i) omg;rw [Jjp] at h3;have hmem:(⟨k,kids.len,nm',s,g,e⟩:Node)∈v:=by
      have:(⟨k,kids.len,nm',s,g,e⟩:Node)∈v.drop i:=by rw [h1];simp
      exact List.mem_of_mem_drop this
     have hfn:=hf _ hmem;have hpl:=Ja1 k kids.len nm' s g e hfn.s hfn.e0 hfn.e1;have hri:=Z3 v i nm' k s g e kids r.enc omg (by rw [h1,A6]) fun n hn=>(hf n hn).name
     have hcont:(okT t ↔ okF (kids.app r))→∃ y:Nat×Forest,(v.drop y.1=y.2.enc∧y.1+y.2.enc.length=v.length∧(okT t ↔ okF y.2))∧v.length - y.1<v.length - i∧y=(i+1,kids.app r):=fun h =>
      ⟨(i+1,kids.app r),⟨by simp only;rw [← List.drop_drop,h1,Jql];rfl,by simp only;rw [Jql,List.length_append];omega,h⟩,by simp only;omega,rfl⟩
     by_cases hn1:G3 k s g e kids.len
     ·rw [decide_eq_true hn1] at hpl;by_cases hk1:Eh k kids.list
      ·rw [@decide_eq_true _ (Classical.propDecidable _) hk1] at hri;(refine lws ?_;simp only [go_sem,simprocAttr,A7,c4,hga]);(repeat' (first | ((first | (refine Jqa (hpl) ?_)|(refine Jqa (hri) ?_));simp only [go_sem,simprocAttr,w1]) | fail));obtain ⟨y,p1,p2,rfl⟩:=hcont (h3.trans ⟨fun h=>h.2.2,fun h=>⟨hn1,hk1,h⟩⟩);exact ⟨_,p1,p2,Jqd⟩
      ·rw [@decide_eq_false _ (Classical.propDecidable _) hk1] at hri;(refine lws ?_;simp only [go_sem,simprocAttr,A7,c4,hga]);(repeat' (first | ((first | (refine Jqa (hpl) ?_)|(refine Jqa (hri) ?_));simp only [go_sem,simprocAttr]) | fail));exact hB false (by rw [h3];simp [hk1])
     ·rw [decide_eq_false hn1] at hpl;(refine lws ?_;simp only [go_sem,simprocAttr,A7,c4,hga]);(repeat' (first | ((refine Jqa (hpl) ?_);simp only [go_sem,simprocAttr]) | fail));exact hB false (by rw [h3];simp [hn1])
   ·have c2:(n.name=[])=True:=eq_true hnm;have c3:(nxtR v 0 1=(v.length:Int))=False:=eq_false hnx;have hb:=I8 (v:=v) fun h=>hnx (Zg h)
    have c4:=hg0;have hga:=hg0;have w1:=hg0;(refine bgo Tryd.func31 ?_;simp only [go_sem,simprocAttr,A7,hg0,c0,c2]);(repeat' (first | ((refine Jqa (hN) ?_);simp only [go_sem,simprocAttr,A7,c3]) | fail));exact hb
  ·have c2:(n.name=[])=False:=eq_false hnm;have c3:=c2;have c4:=hg0;have hga:=hg0;have w1:=hg0;have hb:=I8 (v:=v) (by
    rintro ⟨t,_,h⟩;cases t with
    | mk k s g e kids =>
     rw [A6,← hvv] at h;have:=(List.cons.inj h).1;rw [this] at hnm;exact hnm rfl)
   (refine bgo Tryd.func31 ?_;simp only [go_sem,simprocAttr,A7,hg0,c0,c2]);exact hb
def FitT (t:Tree):Prop:=∀ n∈t.enc [],NodeFit n
def Ih (v:List Node):Bool:=v.all fun n=>decide (n.s.length≤200) && decide (n.name.length≤200)
noncomputable def fewB (v:List Node) (m:Nat):Bool:=decide (v.length≤m) && (Ih v && Jw v)
structure EFit (n:Node):Prop where
 s:n.s.length≤9223372036854775807
 name:n.name.length≤9223372036854775807
 e0:-9223372036854775808≤n.e
 e1:n.e≤9223372036854775807
theorem Jbf {v:List Node} {i:Nat} {n:Node} (h:v[i]? = some n):Ih (v.take (i+1))=(Ih (v.take i) && (decide (n.s.length≤200) && decide (n.name.length≤200))):=by
 unfold Ih;rw [List.take_add_one,h,List.all_append];simp
theorem Y1 {v:List Node} {i:Nat} {n:Node} (h:v[i]? = some n) (hn:¬ (n.s.length≤200∧n.name.length≤200)):Ih v=false:=by
 unfold Ih;rw [List.all_eq_false];exact ⟨n,List.mem_of_getElem? h,by simpa using hn⟩
theorem Ln (v:List Node) (m:Nat) (hm':m≤1000) (hv:v.length≤9223372036854775807) (hf:∀ n∈v,EFit n):Det cx 22 [.p (.sl (valL v)),.p (.int .i64 m)] [] (.p (.bool (fewB v m))) []:=by
 by_cases hl:v.length≤m
 ·have c0:((m:Int)<(v.length:Int))=False:=eq_false omg;(refine bgo Tryd.func22 ?_;simp only [go_sem,simprocAttr,A7,c0]);refine SWP.loop (fun i:Nat=>⟨Ba 34 [(0,.p (.sl (valL v))),(1,.p (.int .i64 m)),(5,.p (.int .i64 i))],[]⟩) (fun i=>i≤v.length∧Ih (v.take i)=true) (fun i=>v.length - i) 0 Jqd ⟨Nat.zero_le _,rfl⟩ ?_;rintro i ⟨h1,h2⟩;by_cases hi:¬ i<v.length
  ·have c1:((i:Int)<(v.length:Int))=False:=eq_false omg;rw [List.take_of_length_le omg] at h2;have hfit:∀ n∈v,NodeFit n:=fun n hn=>by
    have h3:=h2;unfold Ih at h3;have:=List.all_eq_true.1 h3 n hn;simp only [Bool.and_eq_true,decide_eq_true_eq] at this;exact ⟨by omega,by omega,(hf n hn).e0,(hf n hn).e1⟩
   have hg:=c1;have w1:=c1;(refine lws ?_;simp only [go_sem,simprocAttr,A7,c1]);(repeat' (first | ((refine Jqa (Jp v omg hfit) ?_);simp only [go_sem,simprocAttr]) | fail));unfold fewB;rw [decide_eq_true hl,h2];simp
  ·have hi:=Decidable.not_not.1 hi;have c1:((i:Int)<(v.length:Int))=True:=eq_true omg;obtain ⟨n,hn⟩:∃ n,v[i]? = some n:=⟨_,List.getElem?_eq_getElem hi⟩
   have hg:=U5 hn;have w1:=wj1 (i:=i) omg;have hfn:=hf n (List.mem_of_getElem? hn);have hsn:=hfn.s;have hnn:=hfn.name;(refine lws ?_;simp only [go_sem,simprocAttr,A7,c1,hg,w1]);(repeat' (apply iteI <;> intro h))
   all_goals first
    | (
     refine ⟨i+1,⟨by omega,?_⟩,by omega,Jqd⟩;rw [Jbf hn,h2];simp;omega)
    | (
     unfold fewB;rw [Y1 hn omg];simp)
 ·have c0:((m:Int)<(v.length:Int))=True:=eq_true omg;have c1:=c0;have hg:=c0;have w1:=c0;(refine bgo Tryd.func22 ?_;simp only [go_sem,simprocAttr,A7,c0]);unfold fewB;rw [decide_eq_false hl];simp
theorem Jnl {v:List Node} {m:Nat}:fewB v m=true ↔ v.length≤m∧(∀ n∈v,n.s.length≤200∧n.name.length≤200)∧∃ t,okT t∧v=t.enc []:=by
 unfold fewB Ih;rw [Bool.and_eq_true,Bool.and_eq_true,decide_eq_true_eq,Iq,List.all_eq_true];simp only [Bool.and_eq_true,decide_eq_true_eq];rfl
def tOne:Tree:=.mk 2 [] false 0 .nil
def tTwo:Tree:=.mk 5 [] false 0 (.cons [] tOne (.cons [] tOne .nil))
def tObj:Tree:=.mk 6 [] false 0 (.cons [97] tTwo .nil)
def tSet:Tree:=.mk 6 [] false 0 (.cons [97] tOne .nil)
def ndL (k m:Int) (nm:List UInt8):List PV:=[.int .i64 k,.int .i64 m,.str nm,.str [],.bool false,.int .i64 0]
def pA:List Step:=[⟨false,[97],0⟩,⟨true,[],0⟩,⟨false,[98,32,99],0⟩]
structure ValFit (v:List Node):Prop where
 len:v.length≤140737488355328
 node:∀ n∈v,EFit n
theorem Fw {v:List Node} (hv:ValFit v) {m:Nat} (h:fewB v m=true):∃ t,okT t∧v=t.enc []∧(t.enc []).length≤m∧FitT t:=by
 obtain ⟨h1,h2,t,h3,rfl⟩:=Jnl.1 h;exact ⟨t,h3,rfl,h1,fun n hn=>⟨by have:=(h2 n hn).1;omega,by have:=(h2 n hn).2;omega,(hv.node n hn).e0,(hv.node n hn).e1⟩⟩
end Go.LX
namespace Go.LX
open Go Go.Proofs Go.RowKit Go.ChangeShapes Go.WideShapes Go.ChangeAt
section
variable {H:Type} {enc:TypeId×Value→H} {P:Program}
theorem Kz (hl:laidOutB P=true) {W W':World} {sp:Nat→Bool}:∀ (ts:List TypeId) (vs:List Value) (ds:List (DataW H)) (ps:List MemPlace),(∀ t∈ts,P.readableRec t=true∧t<P.types.size) →
  DataW.TrodAll enc P W 0 (fun _=>true) true ts vs ds ps→(∀ p∈ps,W.sameAt W' p)→(∀ p∈ps,sp p.block=true)→DataW.TrodAll enc P W' 0 sp true ts vs ds ps
 | [],vs,ds,ps,_,h,_,_=>by
  obtain ⟨rfl,rfl,rfl⟩:=trodAll_nil h;exact trodAll_mk0
 | t :: ts,vs,ds,ps,hr,h,hs,hb=>by
  obtain ⟨v,vs',d,ds',p,q,rfl,rfl,rfl,h0,h1⟩:=trodAll_cons h;have ht:=hr t List.mem_cons_self;exact trodAll_cons_mk (WideElems.Trod_stays hl ht.1 ht.2 h0 (fun x hx=>hs x (List.mem_append_left _ hx)) fun x hx=>hb x (List.mem_append_left _ hx))
   (Kz hl ts vs' ds' q (fun u hu=>hr u (List.mem_cons_of_mem _ hu)) h1 (fun x hx=>hs x (List.mem_append_right _ hx)) fun x hx=>hb x (List.mem_append_right _ hx))
theorem M7 (hl:laidOutB P=true) {f:Func} {s:ChangeSpec} {b:TypeId} {W W':World} {args:Array Value} {ds gs:List (DataW H)} {before:List MemPlace} (hv:s.vars=[])
  (hrd:∀ t∈f.params.toList,P.readableRec t=true∧t<P.types.size) (hrt:f.resultTypes = #[b]) (hb:P.underlying b=some .bool)
  (hW:DataW.Whole enc P f.params.toList s.vars false W args.toList ds gs before) (hfn:s.fn H ds = { results:=[.lit (.bool true)],args:=ds }) (hbel:Below W.heap.size W W') :
  s.post enc P f false true false false W args (.bool true) W':=by
 have hW':=hW;have hlt:∀ p∈before,p.block<W.heap.size:=fun p hp=>hW'.lt p hp
 obtain ⟨p,q,hA,hV,rfl,hfz,hnd⟩:=hW;rw [hv] at hV;obtain ⟨rfl,rfl⟩:=trodVars_none hV;simp only [List.append_nil] at hlt;refine ⟨ds,[],p ++ [],[],p,[],hW',?_,?_,?_,hbel.frame _,fun h=>by cases h⟩
 ·rw [List.append_nil,hfn,hrt];exact trodAll_mk1 (shut_bool hb _)
 ·rw [List.append_nil,hfn];exact Kz hl _ _ _ _ hrd hA (fun x hx=>hbel.same (hlt x hx)) fun x hx=>by simpa using hlt x hx
 ·rw [List.append_nil,hfn,hv];rfl
end
end Go.LX
namespace Go.LX
open Go Go.Proofs Go.RowKit Go.ChangeShapes Go.WideShapes Go.ChangeAt Go.Lib
def Ja (W:World) (b:Nat):Prop:=b<W.heap.size
theorem Jkw {α:Type} {Q:Nat→α→Prop}:∀ n,(∀ i,i<n→∃ x,Q i x)→∃ p:List α,p.length=n∧∀ i x,p[i]? = some x→Q i x
 | 0,_=>⟨[],rfl,fun i x h=>by simp at h⟩
 | n+1,h=>by
  obtain ⟨p,hp,hq⟩:=Jkw n fun i hi=>h i omg
  obtain ⟨x,hx⟩:=h n omg;refine ⟨p ++ [x],by simp [hp],fun i y hy=>?_⟩;rcases Nat.lt_trichotomy i n with hi | hi | hi
  ·rw [List.getElem?_append_left omg] at hy;exact hq i y hy
  ·subst hi;rw [List.getElem?_append_right omg,hp] at hy;simp at hy;subst hy;exact hx
  ·rw [List.getElem?_eq_none (by simp [hp];omega)] at hy;cases hy
theorem J8 {H:Type} {P:Program} {e:TypeId} {d:DataW H} {n:Nat}:∀ {l:List (DataW H)},d∈l→n∈d.weights P e→n∈DataW.weightsAll P e l
 | [],h,_=>by cases h
 | a :: l,h,hn=>by
  simp only [DataW.weightsAll,List.mem_append];rcases List.mem_cons.1 h with rfl | h
  ·exact .inl hn
  ·exact .inr (J8 h hn)
theorem Jka (b off k:Nat):(⟨b,off,none⟩:Addr).add k=⟨b,off+k,none⟩:=by
 unfold Addr.add;split
 ·rename_i h;subst h;rfl
 ·rfl
theorem Jw9 {α H:Type} {enc:TypeId×Value→H} {P:Program} {w:World} {t e:TypeId} {c:Nat} (vals:α→List Value) (cells:α→List PV) (Good:α→Prop)
  (ht:P.underlying t=some (.slice e)) (hc:P.cellsOf e=c) (hc0:0<c) (hb:0<P.bytesOf e) (hvl:∀ x,(vals x).length=c) (hcl:∀ x,(cells x).length=c) (hsc:∀ x,∀ p∈cells x,p.scalar=true)
  (hrep:∀ x j p,Good x→(cells x)[j]? = some p→PRep w (Ja w) ((vals x).getD j undef) p)
  (each:∀ (fuel:Nat) (cs:List Value) (y:DataW H×List MemPlace),DataW.trod enc P w 0 (fun _=>true) true fuel e cs=some y→(∀ n∈y.1.weights P e,n≤reachBytes)→∃ x,Good x∧cs=vals x)
  {cs:List Value} {fuel:Nat} {x:DataW H×List MemPlace} (h:DataW.trod enc P w 0 (fun _=>true) true fuel t cs=some x) (hz:∀ n∈x.1.weights P t,n≤reachBytes) :
  ∃ (v:Value) (p:List α),cs=[v]∧p.length≤140737488355328∧(∀ a∈p,Good a)∧PRep w (Ja w) v (.sl (p.map cells)):=by
 rcases Go.Deep.open_slice ht h with ⟨rfl,rfl⟩ | ⟨a,len,cap,m,n,D,Pl,rfl,hb0,hl,hm,hmm,rfl,hx⟩
 ·exact ⟨_,[],rfl,by simp,by simp,PRep.slNil⟩
 ·simp only [if_true] at hmm;subst hmm;by_cases h0:m=0
  ·subst h0;obtain rfl:len=0:=by omega
   exact ⟨_,[],rfl,by simp,by simp,PRep.slNil⟩
  obtain ⟨blk,off,spot⟩:=a;obtain ⟨cs0,hc1,_⟩:=hx 0 omg;have h00:=(World.cells?_some hc1).2.2 0 omg;have hl0:=(World.cells?_some hc1).2.1;have hcell:(w.cell? ⟨blk,off,spot⟩).isSome=true:=by
   have e1:((⟨blk,off,spot⟩:Addr).add (0 * P.cellsOf e)).add 0=⟨blk,off,spot⟩:=by rw [Nat.zero_mul];rfl
   rw [e1] at h00;rw [h00,List.getElem?_eq_getElem omg];rfl
  have hsp:spot=none:=by
   unfold World.cell? at hcell;cases spot with
   | none=>rfl
   | some s=>split at hcell <;> simp at hcell
  subst hsp;have hblk:blk<w.heap.size:=by
   rcases Nat.lt_or_ge blk w.heap.size with h | h
   ·exact h
   ·unfold World.cell? at hcell;simp only [Array.getElem?_eq_none h] at hcell;simp at hcell
  have hreach:reachBytes≤140737488355328:=by decide
  have hlen:len≤140737488355328:=by
   have h1:=hz ((len+(m - len)) * P.bytesOf e) (by simp [DataW.weights,ht]);have h2:len≤(len+(m - len)) * P.bytesOf e:=by
    have:(len+(m - len)) * 1≤(len+(m - len)) * P.bytesOf e:=Nat.mul_le_mul_left _ hb;omega
   omega
  obtain ⟨p,hp,hq⟩:=Jkw (Q:=fun i x=>Good x∧w.cells? 0 ((⟨blk,off,none⟩:Addr).add (i * c)) c=some (vals x)) len fun i hi=>by
   obtain ⟨cs',h1,h2⟩:=hx i omg;rw [hc] at h1;obtain ⟨x,hg,rfl⟩:=each n cs' _ h2 (fun k hk=>hz k (by
    simp only [DataW.weights,ht,List.mem_cons,List.mem_append];exact .inr (.inl (J8 (List.mem_map.2 ⟨i,List.mem_range.2 hi,rfl⟩) hk))))
   exact ⟨x,hg,h1⟩
  refine ⟨_,p,rfl,by omega,fun a ha=>?_,?_⟩
  ·obtain ⟨i,hi⟩:=List.getElem?_of_mem ha;exact (hq i a hi).1
  ·have e2:len=(p.map cells).length:=by simp [hp]
   have key:=PRep.sl (w:=w) (Im:=Ja w) blk off m c (p.map cells) (by rw [← e2];exact hl) hblk (fun i j=>match p[i]? with | some x=>(vals x).getD j undef | none=>undef)
    (fun r hr=>by obtain ⟨x,_,rfl⟩:=List.mem_map.1 hr;exact hcl x)
    (fun r hr=>by obtain ⟨x,_,rfl⟩:=List.mem_map.1 hr;exact hsc x)
    (fun i hi j hj=>by
     rw [← e2] at hi;obtain ⟨x,hx'⟩:∃ x,p[i]? = some x:=⟨_,List.getElem?_eq_getElem omg⟩
     have h1:=(World.cells?_some (hq i x hx').2).2.2 j hj;rw [Go.Deep.add_add,Jka,← Nat.add_assoc] at h1;rw [h1,hx'];have h3:j<(vals x).length:=by rw [hvl];exact hj
     simp [List.getD_eq_getElem?_getD,List.getElem?_eq_getElem h3])
    (fun i r j q hr hq'=>by
     rw [List.getElem?_map] at hr;cases hx':p[i]? with
     | none=>rw [hx'] at hr;cases hr
     | some x =>
      rw [hx'] at hr;obtain rfl:=Option.some.inj hr;exact hrep x j q (hq i x hx').1 hq')
   rw [← e2] at key;exact key
theorem Xx {α H:Type} {enc:TypeId×Value→H} {P:Program} {w:World} {t e:TypeId} {c:Nat} (vals:α→List Value) (cells:α→List PV) (Good:α→Prop)
  (ht:P.underlying t=some (.slice e)) (hc:P.cellsOf e=c) (hb:0<P.bytesOf e) (hvl:∀ x,(vals x).length=c) (hcl:∀ x,(cells x).length=c) (hsc:∀ x,∀ p∈cells x,p.scalar=true)
  (hrep:∀ (Im:Nat→Prop) x j p,(cells x)[j]? = some p→PRep w Im ((vals x).getD j undef) p)
  (each:∀ (fuel:Nat) (cs:List Value) (y:DataW H×List MemPlace),DataW.trod enc P w 0 (fun _=>true) true fuel e cs=some y→(∀ n∈y.1.weights P e,n≤reachBytes)→∃ x,Good x∧cs=vals x)
  {b:Nat} {v:Value} (hok:Cell.okWide P w .any b t v) {fuel:Nat} {x:DataW H×List MemPlace} (h:DataW.trod enc P w 0 (fun _=>true) true fuel t [v]=some x) (hz:∀ n∈x.1.weights P t,n≤reachBytes) (hc0:0<c:=by decide) :
  ∃ p:List α,p.length≤140737488355328∧(∀ a∈p,Good a)∧PRep w (Ja w) v (.sl (p.map cells)):=by
 obtain ⟨v',p,e1,h1,h2,h3⟩:=Jw9 vals cells Good ht hc hc0 hb hvl hcl hsc (fun x j p _ h=>hrep _ x j p h) each h hz;cases e1;exact ⟨p,h1,h2,h3⟩
theorem J33 {α H:Type} {enc:TypeId×Value→H} {P:Program} {w:World} {t2 t e:TypeId} {c:Nat} (vals:α→List Value) (cells:α→List PV) (Good:α→Prop)
  (ht2:P.underlying t2=some (.slice t)) (c1:P.cellsOf t=1) (b1:0<P.bytesOf t)
  (ht:P.underlying t=some (.slice e)) (hc:P.cellsOf e=c) (hc0:0<c) (hb:0<P.bytesOf e) (hvl:∀ x,(vals x).length=c) (hcl:∀ x,(cells x).length=c) (hsc:∀ x,∀ p∈cells x,p.scalar=true)
  (hrep:∀ x j p,Good x→(cells x)[j]? = some p→PRep w (Ja w) ((vals x).getD j undef) p)
  (each:∀ (fuel:Nat) (cs:List Value) (y:DataW H×List MemPlace),DataW.trod enc P w 0 (fun _=>true) true fuel e cs=some y→(∀ n∈y.1.weights P e,n≤reachBytes)→∃ x,Good x∧cs=vals x)
  {cs:List Value} {fuel:Nat} {x:DataW H×List MemPlace} (h:DataW.trod enc P w 0 (fun _=>true) true fuel t2 cs=some x) (hz:∀ n∈x.1.weights P t2,n≤reachBytes) :
  ∃ (v:Value) (ls:List (List α)),cs=[v]∧ls.length≤140737488355328∧(∀ l∈ls,l.length≤140737488355328∧∀ a∈l,Good a)∧PRep w (Ja w) v (.sl (ls.map fun l=>[.sl (l.map cells)])):=by
 obtain ⟨v,p,e1,h1,h2,h3⟩:=Jw9 (α:=Value×List α) (fun x=>[x.1]) (fun x=>[.sl (x.2.map cells)]) (fun x=>(x.2.length≤140737488355328∧∀ a∈x.2,Good a)∧PRep w (Ja w) x.1 (.sl (x.2.map cells)))
  ht2 c1 omg b1 (fun _=>rfl) (fun _=>rfl) (fun x p hp=>by simp at hp;subst hp;rfl)
  (fun x j p hg hp=>by
   cases j with
   | zero=>simp at hp;subst hp;exact hg.2
   | succ j=>simp at hp)
  (fun fuel cs y hy hzy=>by
   obtain ⟨v,q,rfl,g1,g2,g3⟩:=Jw9 vals cells Good ht hc hc0 hb hvl hcl hsc hrep each hy hzy;exact ⟨(v,q),⟨⟨g1,g2⟩,g3⟩,rfl⟩) h hz
 refine ⟨v,p.map (·.2),e1,by simpa using h1,fun l hl=>?_,?_⟩
 ·obtain ⟨x,hx,rfl⟩:=List.mem_map.1 hl;exact (h2 x hx).1
 ·rw [List.map_map];exact h3
open Go.Proofs.YtpdaccjebbbbaaaDoor
theorem Mc {P:Program} {w:World} {x:String×DataW Unit} {l:List (String×DataW Unit)} (h:laidMet P (x :: l) w):laidMet P l w:=by
 obtain ⟨ps,h1,h2,h3⟩:=h;obtain ⟨n,d⟩:=x;obtain ⟨g,t,cs,fuel,p,q,_,_,_,_,h5,rfl⟩:=h1;exact ⟨q,h5,(List.nodup_append.1 h2).2.1,fun b off hb=>h3 b off (List.mem_append_right _ hb)⟩
theorem Jc3 (x:ByteArray):(⟨⟨x.data.toList⟩⟩:ByteArray)=x:=by rcases x with ⟨⟨l⟩⟩;rfl
theorem T8 (s:ByteArray):s.data.toList.length=s.size:=by simp
theorem gOwn:ownKnob Tryd.prog.godebug=none:=kr
theorem L2:laidOutB Tryd.prog=true:=kr
def tz64:List Int:=Lib.deBruijn64tab.map fun n:Nat=>(n:Int)
theorem Kv {W:World} {n:String} {d:DataW Unit} {g:Nat} (h:VarReads Tryd.prog W n d) (hg:Tryd.prog.globalNamed n=some g):g<W.heap.size:=by
 obtain ⟨g',t',cs,fuel,p,h1,_,h3,_⟩:=h;obtain rfl:=Option.some.inj (hg.symm.trans h1);unfold World.var? at h3;rw [hg] at h3;simp only [Option.bind_some] at h3;rcases Nat.lt_or_ge g W.heap.size with h | h
 ·exact h
 ·rw [Array.getElem?_eq_none h] at h3;cases h3
theorem Jdp {W:World} (h:laidMetH Tryd.prog Rows.alignTellsRow.laid W):QuoteG W (Ja W):=by
 have h0:laidMet Tryd.prog Rows.alignTellsRow.laid W:=h;have h1:=Mc h0;have h2:=Mc h1;have r5:VarReads Tryd.prog W "math/bits.deBruijn64tab" Rows.laid_math_bits_deBruijn64tab:=laidMet.reads h0 (by simp [Rows.alignTellsRow]);have r6:VarReads Tryd.prog W "internal/strconv.uint64pow10" Rows.laid_internal_strconv_uint64pow10:=laidMet.reads h0 (by simp [Rows.alignTellsRow]);refine ⟨?_,?_,Kv r5 kr,Kv r6 kr⟩
 ·have ht:TabIs Tryd.prog W "math/bits.deBruijn64tab" .u8 tz64:=tabIs_of_head (g:=3) (t:=119) (e:=5) (n:=64) kr kr kr kr kr kr (k:=.u8) (zs:=tz64) h1;intro j hj;have:=ht.cell (g:=3) kr j (by simpa [tz64] using hj);rw [this];simp [tz64,List.getD_eq_getElem?_getD,hj]
 ·exact tabIs_of_head (g:=0) (t:=113) (e:=82) (n:=20) kr kr kr kr kr kr (k:=.u64) (zs:=Lib.pow10Tab) h2
def Yw (d:DataW Unit):List Value:=match d with
 | .agg l=>l.flatMap fun x=>match x with
  | .lit (.int k n)=>[Value.int k n]
  | .agg l'=>l'.flatMap fun y=>match y with
   | .lit (.int k n)=>[Value.int k n]
   | _=>[]
  | _=>[]
 | _=>[]
noncomputable def D9 (os:Os):World :=
 let N:=(World.settled Tryd.prog os).heap.size;let w0:=World.holding Tryd.prog os ⟨#[],#[],[]⟩;let put (h:Array Obj) (g:Nat) (cs:Array Value):Array Obj:=h.modify g fun
  | .cells _ t frozen=>.cells cs t frozen
  | o=>o
 let h1:=put w0.heap 2 (Yw Rows.laid_math_bits_deBruijn32tab).toArray;let h2:=put h1 3 (Yw Rows.laid_math_bits_deBruijn64tab).toArray;let h3:=put h2 0 (Yw Rows.laid_internal_strconv_uint64pow10).toArray
 { w0 with heap:=h3 }
theorem Ma (os:Os) (args:Array Value):laidMet Tryd.prog Rows.alignTellsRow.laid ((D9 os).forCall (fun _ _=>0) ⟨#[],args,[]⟩).memory :=
 laidMet_of_run' 8 kr kr
theorem trod_string {H:Type} {enc:TypeId×Value→H} {P:Program} {w:World} {base:Nat} {sp:Nat→Bool} {held:Bool} {t:TypeId} {s:List UInt8} {d:DataW H} {p:List MemPlace} (ht:P.underlying t=some .string) (h:DataW.Trod enc P w base sp held t (.string ⟨⟨s⟩⟩) d p):d=.lit (.string s):=by
 obtain ⟨fuel,h⟩:=h;cases fuel with
 | zero=>simp [DataW.trod] at h
 | succ f =>
  simp only [DataW.trod,ht,Value.cells] at h;split at h
  ·simp at h;exact h.1.symm
  ·cases h
theorem cBool:Tryd.prog.cellsOf 4=1:=kr
theorem cStr:Tryd.prog.cellsOf 9=1:=kr
theorem cInt:Tryd.prog.cellsOf 3=1:=kr
theorem J49:Tryd.prog.cellsOf 45=6:=kr
theorem bNode:0<Tryd.prog.bytesOf 45:=by decide +kernel
def Step.vals (x:Step):List Value:=[.bool x.part,.string ⟨⟨x.name⟩⟩,.int .i64 x.n]
def Node.vals (n:Node):List Value:=[.int .i64 n.kind,.int .i64 n.many,.string ⟨⟨n.name⟩⟩,.string ⟨⟨n.s⟩⟩,.bool n.neg,.int .i64 n.e]
theorem Jly {H:Type} {enc:TypeId×Value→H} {w:World} (fuel:Nat) (cs:List Value) (y:DataW H×List MemPlace) (h:DataW.trod enc Tryd.prog w 0 (fun _=>true) true fuel 45 cs=some y) (_:∀ n∈y.1.weights Tryd.prog 45,n≤reachBytes) :
  ∃ x:Node,EFit x∧cs=x.vals:=by
 obtain ⟨xs,n,_,rfl,hl,hlen,hf⟩:=DataW.trod_struct Tryd.underlying45 h;rw [J49] at hl
 match xs,hlen,cs,hl with
 | [y0,y1,y2,y3,y4,y5],_,[a0,a1,a2,a3,a4,a5],_ =>
  have g0:=hf 0 _ rfl;have g1:=hf 1 _ rfl;have g2:=hf 2 _ rfl;have g3:=hf 3 _ rfl;have g4:=hf 4 _ rfl;have g5:=hf 5 _ rfl;simp only [cBool,cStr,cInt,List.drop_zero,List.drop_succ_cons,List.take_succ_cons,List.take_zero,List.getElem?_cons_zero,List.getElem?_cons_succ] at g0 g1 g2 g3 g4 g5;obtain ⟨x0,e0,rfl,_⟩:=DataW.trod_int Tryd.underlying3 g0;obtain ⟨x1,e1,rfl,_⟩:=DataW.trod_int Tryd.underlying3 g1;obtain ⟨x2,e2,rfl,z2⟩:=DataW.trod_string Tryd.underlying9 g2;obtain ⟨x3,e3,rfl,z3⟩:=DataW.trod_string Tryd.underlying9 g3;obtain ⟨x4,e4,rfl⟩:=DataW.trod_bool Tryd.underlying4 g4;obtain ⟨x5,e5,rfl,z5⟩:=DataW.trod_int Tryd.underlying3 g5;cases e0;cases e1;cases e2;cases e3;cases e4;cases e5;have hm:maxLen=9223372036854775807:=by decide
  have k1:IntKind.i64.min = -9223372036854775808:=by decide
  have k2:IntKind.i64.max=9223372036854775807:=by decide
  simp only [Lit.wf,Bool.and_eq_true,decide_eq_true_eq,k1,k2] at z5;have s2:=T8 x2;have s3:=T8 x3;refine ⟨⟨x0,x1,x2.data.toList,x3.data.toList,x4,x5⟩,⟨?_,?_,z5.1,z5.2⟩,?_⟩
  ·show x3.data.toList.length≤_;omega
  ·show x2.data.toList.length≤_;omega
  ·simp only [Node.vals,Jc3]
theorem Ji6 (w:World) (Im:Nat→Prop) (x:Node) (j:Nat) (p:PV) (h:x.cells[j]? = some p):PRep w Im (x.vals.getD j undef) p:=by
 match j,h with
 | 0,h=>cases h;exact PRep.int _ _
 | 1,h=>cases h;exact PRep.int _ _
 | 2,h=>cases h;exact PRep.str _
 | 3,h=>cases h;exact PRep.str _
 | 4,h=>cases h;exact PRep.bool _
 | 5,h=>cases h;exact PRep.int _ _
 | j+6,h=>simp [Node.cells] at h
theorem Jkh {P:Program} {W:World} {r:Reach} {b:Nat} {t e:TypeId} {v:Value} (ht:P.underlying t=some (.slice e)) (h:Cell.okWide P W r b t v):v.cells.toList=[v]:=by
 simp only [Cell.okWide,Cell.ok,ht] at h;cases v <;> first | rfl | (simp at h;done)
theorem J0 {H:Type} {P:Program} {ts:List TypeId} {ds:List (DataW H)} (hz:(DataW.weightsEach P ts ds).all (· ≤ reachBytes)=true) {j:Nat} {t:TypeId} {d:DataW H} (h1:ts[j]? = some t) (h2:ds[j]? = some d):∀ n∈d.weights P t,n≤reachBytes:=fun n hn=>by
 simpa using List.all_eq_true.1 hz n (DataW.weights_mem_each h1 h2 n hn)
theorem Jyd {P:Program} (h:P.funcs.any Func.goes=false) (f:FuncId):P.goes f=false:=by
 unfold Program.goes;rw [h,Bool.and_false,Bool.or_false,List.any_eq_false];intro g _ hg;cases hf:P.funcs[g]? with
 | none=>rw [hf] at hg;cases hg
 | some fn =>
  rw [hf] at hg;rw [Array.any_eq_false] at h;obtain ⟨i,rfl⟩:=Array.getElem?_eq_some_iff.1 hf;exact h g i hg
theorem goesBy_none {P:Program} (h:P.funcs.any Func.goes=false) (c:OpenClaim):false=c.goesBy P:=by
 unfold OpenClaim.goesBy Program.goesAt Program.goesFrom;have h1:(P.funcNamed c.func).any P.goes=false:=by
  cases P.funcNamed c.func with
  | none=>rfl
  | some f=>exact Jyd h f
 rw [h1,Bool.false_or];split
 ·rfl
 ·symm;rw [List.any_eq_false];intro g _ hg;rw [Jyd h g] at hg;cases hg
theorem noGoes:Tryd.pinned.checked.prog.funcs.any Func.goes=false:=kr
end Go.LX
namespace Go.LX
open Go Go.RowKit Go.Proofs
attribute [local irreducible] Al SWP Bi
def Jqe (vs:List (List Node)):List (List PV):=vs.map fun v=>[.sl (valL v)]
theorem Ht (vs:List (List Node)):(Jqe vs).length=vs.length:=by simp [Jqe]
def sumL (vs:List (List Node)):Nat:=(vs.map List.length).sum
theorem Jg5 {vs:List (List Node)} {i:Nat} {v:List Node} (h:vs[i]? = some v):sumL (vs.take (i+1))=sumL (vs.take i)+v.length:=by
 unfold sumL;rw [List.take_add_one,h];simp
theorem Jdw:∀ (vs:List (List Node)) (i:Nat),sumL (vs.take i)≤sumL vs
 | [],i=>by simp [sumL]
 | v :: vs,0=>by simp [sumL]
 | v :: vs,i+1=>by
  have:=Jdw vs i;unfold sumL at this ⊢;simp only [List.take_succ_cons,List.map_cons,List.sum_cons];omega
noncomputable def allB (vs:List (List Node)) (m:Nat):Bool:=decide (vs.length+sumL vs≤m) && vs.all fun v=>fewB v m
theorem Rv {vs:List (List Node)} {m:Nat}:allB vs m=true ↔ vs.length+sumL vs≤m∧∀ v∈vs,fewB v m=true:=by
 unfold allB;rw [Bool.and_eq_true,decide_eq_true_eq,List.all_eq_true]
theorem Q8 {vs:List (List Node)} {m:Nat} (h:¬ (vs.length+sumL vs≤m∧∀ v∈vs,fewB v m=true)):allB vs m=false:=by
 cases hb:allB vs m with
 | false=>rfl
 | true=>exact absurd (Rv.1 hb) h
theorem J2s (vs:List (List Node)) (m:Nat) (hm':m≤1000) (hl:vs.length≤140737488355328) (hv:∀ v∈vs,v.length≤140737488355328∧∀ n∈v,EFit n):Det cx 21 [.p (.sl (Jqe vs)),.p (.int .i64 m)] [] (.p (.bool (allB vs m))) []:=by
 (refine bgo Tryd.func21 ?_;simp only [go_sem,simprocAttr,Ht]);refine SWP.loop (fun i:Nat=>⟨Ba 37 [(0,.p (.sl (Jqe vs))),(1,.p (.int .i64 m)),(5,.p (.int .i64 (vs.length+sumL (vs.take i):Nat))),(6,.p (.int .i64 i))],[]⟩) (fun i=>i≤vs.length∧(i=0∨vs.length+sumL (vs.take i)≤m)∧∀ v∈vs.take i,fewB v m=true) (fun i=>vs.length - i) 0 (by simp only [List.take_zero,show sumL []=0 from rfl,Nat.add_zero];exact Jqd) ⟨Nat.zero_le _,.inl rfl,by simp⟩ ?_;rintro i ⟨h1,h2,h3⟩;by_cases hi:¬ i<vs.length
 ·have c1:((i:Int)<(vs.length:Int))=False:=eq_false omg;have tk:vs.take i=vs:=List.take_of_length_le omg;rw [tk] at h2 h3 ⊢;have hg:=c1;have w1:=c1;have w2:=c1;have c2:=c1;(refine lws ?_;simp only [go_sem,simprocAttr,Ht,c1]);rw [Bool.eq_iff_iff,decide_eq_true_eq,Rv];constructor
  ·exact fun h=>⟨by omega,h3⟩
  ·exact fun h=>by omega
 ·have hi:=Decidable.not_not.1 hi;have c1:((i:Int)<(vs.length:Int))=True:=eq_true omg;obtain ⟨v,hvi⟩:∃ v,vs[i]? = some v:=⟨_,List.getElem?_eq_getElem hi⟩
  have hmem:=List.mem_of_getElem? hvi;obtain ⟨hvl,hvn⟩:=hv v hmem;have hg:(Jqe vs)[i]? = some [.sl (valL v)]:=by simp [Jqe,hvi]
  have hs:=Jg5 hvi;have hsl:=Jdw vs (i+1);have hbase:vs.length+sumL (vs.take i)≤140737488355328:=by
   rcases h2 with rfl | h2
   ·simp [sumL];exact hl
   ·omega
  have w1:IntKind.i64.wrap ((i:Int)+1)=((i+1:Nat):Int):=by rw [Aa omg omg];omega
  have w2:IntKind.i64.wrap (((vs.length+sumL (vs.take i):Nat):Int)+(v.length:Int))=((vs.length+sumL (vs.take (i+1)):Nat):Int):=by rw [Aa omg omg,hs];omega
  have hF:=Ln v m hm' omg hvn;by_cases hlt:m<vs.length+sumL (vs.take (i+1))
  ·have c2:((m:Int)<((vs.length+sumL (vs.take (i+1)):Nat):Int))=True:=eq_true omg;have hb:=Q8 (vs:=vs) (m:=m) omg;(refine lws ?_;simp only [go_sem,simprocAttr,Ht,A7,c1,hg,w2,c2]);rw [hb]
  ·have c2:((m:Int)<((vs.length+sumL (vs.take (i+1)):Nat):Int))=False:=eq_false omg;cases hb1:fewB v m with
   | false =>
    rw [hb1] at hF;have hb:=Q8 (vs:=vs) (m:=m) (fun h=>by have:=h.2 v hmem;rw [hb1] at this;cases this);(refine lws ?_;simp only [go_sem,simprocAttr,Ht,A7,c1,hg,w2,c2]);(repeat' (first | ((refine Jqa (hF) ?_);simp only [go_sem,simprocAttr]) | fail));rw [hb]
   | true =>
    rw [hb1] at hF;(refine lws ?_;simp only [go_sem,simprocAttr,Ht,A7,c1,hg,w2,c2]);(repeat' (first | ((refine Jqa (hF) ?_);simp only [go_sem,simprocAttr,w1]) | fail));refine ⟨i+1,⟨by omega,.inr omg,fun x hx=>?_⟩,by omega,Jqd⟩;rw [List.take_add_one,hvi] at hx;rcases List.mem_append.1 hx with hx | hx
    ·exact h3 x hx
    ·simp at hx;subst hx;exact hb1
end Go.LX
namespace Go.LX
section
variable {α:Type} [DecidableEq α]
def lcsP:List α→List α→Nat
 | [],_=>0
 | _ :: _,[]=>0
 | x :: xs,y :: ys=>if x=y then lcsP xs ys+1 else max (lcsP xs (y :: ys)) (lcsP (x :: xs) ys)
termination_by xs ys=>xs.length+ys.length
theorem Jru (ys:List α):lcsP [] ys=0:=by rw [lcsP]
theorem Jsb:∀ xs:List α,lcsP xs []=0
 | []=>Jru []
 | _ :: _=>by rw [lcsP]
theorem Jre (x:α) (xs:List α) (y:α) (ys:List α):lcsP (x :: xs) (y :: ys)=if x=y then lcsP xs ys+1 else max (lcsP xs (y :: ys)) (lcsP (x :: xs) ys):=by rw [lcsP]
theorem Jvm:∀ (n:Nat) (xs ys:List α),xs.length+ys.length≤n→(∀ x,lcsP xs ys≤lcsP (x :: xs) ys∧lcsP (x :: xs) ys≤lcsP xs ys+1)∧∀ y,lcsP xs ys≤lcsP xs (y :: ys)∧lcsP xs (y :: ys)≤lcsP xs ys+1
 | 0,[],[],_=>⟨fun x=>by rw [Jsb,Jsb];omega,fun y=>by rw [Jru,Jru];omega⟩
 | 0,_ :: _,_,h=>by simp at h
 | 0,[],_ :: _,h=>by simp at h
 | n+1,xs,ys,h=>by
  constructor
  ·intro x;cases ys with
   | nil=>rw [Jsb,Jsb];omega
   | cons y ys =>
    rw [Jre];simp only [List.length_cons] at h;have h1:=Jvm n xs ys (by omega);split
    ·have:=h1.2 y;omega
    ·have h2:=(h1.1 x)
     have h3:=h1.2 y;omega
  ·intro y;cases xs with
   | nil=>rw [Jru,Jru];omega
   | cons x xs =>
    rw [Jre];simp only [List.length_cons] at h;have h1:=Jvm n xs ys (by omega);split
    ·have:=h1.1 x;omega
    ·have h2:=(h1.1 x)
     have h3:=h1.2 y;omega
theorem lcs_l (x:α) (xs ys:List α):lcsP xs ys≤lcsP (x :: xs) ys∧lcsP (x :: xs) ys≤lcsP xs ys+1:=(Jvm _ xs ys (Nat.le_refl _)).1 x
theorem lcs_r (xs:List α) (y:α) (ys:List α):lcsP xs ys≤lcsP xs (y :: ys)∧lcsP xs (y :: ys)≤lcsP xs ys+1:=(Jvm _ xs ys (Nat.le_refl _)).2 y
theorem J5p (x:α) (xs:List α) (y:α) (ys:List α):lcsP (x :: xs) (y :: ys)=if x=y then max (max (lcsP xs (y :: ys)) (lcsP (x :: xs) ys)) (1+lcsP xs ys) else max (lcsP xs (y :: ys)) (lcsP (x :: xs) ys):=by
 rw [Jre];split
 ·have h1:=lcs_r xs y ys;have h2:=lcs_l x xs ys;omega
 ·rfl
theorem Jzt:∀ (n:Nat) (xs ys zs:List α),xs.length+ys.length≤n→zs.Sublist xs→zs.Sublist ys→zs.length≤lcsP xs ys
 | _,[],ys,zs,_,h1,_=>by rw [List.sublist_nil.1 h1];exact Nat.zero_le _
 | _,_ :: _,[],zs,_,_,h2=>by rw [List.sublist_nil.1 h2];exact Nat.zero_le _
 | 0,_ :: _,_ :: _,zs,h,_,_=>by simp at h
 | n+1,x :: xs,y :: ys,zs,h,h1,h2=>by
  simp only [List.length_cons] at h;cases zs with
  | nil=>exact Nat.zero_le _
  | cons z zs =>
   rw [Jre];rcases List.sublist_cons_iff.1 h1 with h3 | ⟨r,e,h3⟩
   ·have h4:=Jzt n xs (y :: ys) (z :: zs) (by simp only [List.length_cons];omega) h3 h2;split
    ·rename_i e;have:=lcs_r xs y ys;omega
    ·omega
   ·injection e with e1 e2
    subst e1 e2;rcases List.sublist_cons_iff.1 h2 with h4 | ⟨r,e,h4⟩
    ·have h5:=Jzt n (z :: xs) ys (z :: zs) (by simp only [List.length_cons];omega) h1 h4;split
     ·have:=lcs_l z xs ys;omega
     ·omega
    ·injection e with e1 e2
     subst e1 e2;rw [if_pos rfl];have:=Jzt n xs ys zs (by omega) h3 h4;simp only [List.length_cons];omega
theorem Jzp:∀ (n:Nat) (xs ys:List α),xs.length+ys.length≤n→∃ zs:List α,zs.Sublist xs∧zs.Sublist ys∧zs.length=lcsP xs ys
 | _,[],ys,_=>⟨[],.refl _,List.nil_sublist _,by rw [Jru];rfl⟩
 | _,x :: xs,[],_=>⟨[],List.nil_sublist _,.refl _,by rw [Jsb];rfl⟩
 | 0,_ :: _,_ :: _,h=>by simp at h
 | n+1,x :: xs,y :: ys,h=>by
  simp only [List.length_cons] at h;rw [Jre];by_cases e:x=y
  ·obtain ⟨zs,h1,h2,h3⟩:=Jzp n xs ys (by omega);rw [if_pos e];exact ⟨x :: zs,h1.cons_cons _,e ▸ h2.cons_cons _,by rw [List.length_cons,h3]⟩
  ·rw [if_neg e];by_cases hm:lcsP xs (y :: ys)≤lcsP (x :: xs) ys
   ·obtain ⟨zs,h1,h2,h3⟩:=Jzp n (x :: xs) ys (by simp only [List.length_cons];omega);exact ⟨zs,h1,h2.cons _,by rw [h3];omega⟩
   ·obtain ⟨zs,h1,h2,h3⟩:=Jzp n xs (y :: ys) (by simp only [List.length_cons];omega);exact ⟨zs,h1.cons _,h2,by rw [h3];omega⟩
theorem Jss {xs ys zs:List α} (h1:zs.Sublist xs) (h2:zs.Sublist ys):zs.length≤lcsP xs ys:=Jzt _ xs ys zs (Nat.le_refl _) h1 h2
theorem Js8 (xs ys:List α):∃ zs:List α,zs.Sublist xs∧zs.Sublist ys∧zs.length=lcsP xs ys:=Jzp _ xs ys (Nat.le_refl _)
theorem J4c (xs ys:List α):lcsP xs ys=lcsP ys xs:=by
 obtain ⟨zs,h1,h2,h3⟩:=Js8 xs ys;obtain ⟨us,g1,g2,g3⟩:=Js8 ys xs;have:=Jss h2 h1;have:=Jss g2 g1;omega
theorem Jtl (xs ys:List α):lcsP xs.reverse ys.reverse=lcsP xs ys:=by
 obtain ⟨zs,h1,h2,h3⟩:=Js8 xs ys;obtain ⟨us,g1,g2,g3⟩:=Js8 xs.reverse ys.reverse;have a:=Jss h1.reverse h2.reverse;have b:=Jss (by have:=g1.reverse;rwa [List.reverse_reverse] at this) (by have:=g2.reverse;rwa [List.reverse_reverse] at this);simp only [List.length_reverse] at a b;omega
theorem J5l {xs xs' ys ys':List α} (h1:xs.Sublist xs') (h2:ys.Sublist ys'):lcsP xs ys≤lcsP xs' ys':=by
 obtain ⟨zs,g1,g2,g3⟩:=Js8 xs ys;rw [← g3];exact Jss (g1.trans h1) (g2.trans h2)
theorem J4g (xs ys:List α) (v:α):lcsP (xs ++ [v]) (ys ++ [v])=lcsP xs ys+1:=by
 rw [← Jtl,List.reverse_append,List.reverse_append];show lcsP (v :: xs.reverse) (v :: ys.reverse)=_;rw [Jre,if_pos rfl,Jtl]
theorem Jxn:∀ xs:List α,lcsP xs xs=xs.length
 | []=>Jru []
 | x :: xs=>by rw [Jre,if_pos rfl,Jxn xs];rfl
theorem J0i (xs ys:List α):lcsP xs ys≤xs.length:=by
 obtain ⟨zs,h1,_,h3⟩:=Js8 xs ys;have:=h1.length_le;omega
theorem J03 (xs ys:List α):lcsP xs ys≤ys.length:=by
 obtain ⟨zs,_,h2,h3⟩:=Js8 xs ys;have:=h2.length_le;omega
theorem J4u (xs:List α) (n:Nat) (h:n≤xs.length):lcsP xs (xs.take n)=n:=by
 have h1:=Jss (List.take_sublist n xs) (List.Sublist.refl (xs.take n));have h2:=J03 xs (xs.take n);rw [List.length_take] at h1 h2;omega
end
end Go.LX
