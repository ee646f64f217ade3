/- Filters that are right: plain facts. -/
import Derived.Test.YtgfggbndbceppaaGreatDoorLxS
import Derived.Test.YtgfggbndbceppaaGreatDoorLxT
import Derived.Test.YtgfggbndbceppaaGreatDoorLxR
import Derived.Test.YtgfggbndbceppaaGreatDoorLxQ
set_option linter.unusedSimpArgs false
set_option linter.unusedVariables false
set_option linter.unusedSectionVars false
set_option linter.unnecessarySimpa false
namespace Go.LX
open Go
def Jqj (op:Int):Prop:=16≤op∧op≤19
instance (op:Int):Decidable (Jqj op):=by unfold Jqj;infer_instance
def Jtq (s:List UInt8):Prop:=(Je s).2.2=0
instance (s:List UInt8):Decidable (Jtq s):=by unfold Jtq;infer_instance
instance (c:Node):Decidable (Jq8 c):=by unfold Jq8;infer_instance
def Jqf (op:Int) (s:List UInt8) (n:Int) (c:Node) (m:Int):Prop :=
 if op=0∨op=10∨op=11∨op=14 then s=[]∧n=0∧c=Jqt∧m=0
 else if op=1 then n=0∧c=Jqt∧m=0∧valid s=true
 else if op=2∨op=3 then s=[]∧c=Jqt∧m=0∧0≤n∧n≤1000000
 else if op=4∨op=17∨op=18 then s=[]∧n=0∧c=Jqt∧m=2
 else if op=5∨op=6∨op=7∨op=19 then s=[]∧n=0∧c=Jqt∧m=1
 else if op=8∨op=9 then s=[]∧n=0∧c=Jqt∧0≤m
 else if op=12∨op=13∨op=15 then n=0∧c=Jqt∧m=0∧Jtq s
 else if op=16 then m=0∧Jtq s∧0≤n∧n≤5∧Jq8 c
 else False
def J49 (op:Int) (p:RKT):Prop:=(Jqj p.2.kind ↔ Jqj op∨op=7)∧(op≠8→p.1=[])∧(op=8→valid p.1=true)
def Jrf (op:Int) (l:List RKT):Prop:=(∀ p∈l,J49 op p)∧(op=4→∀ p,l.head? = some p→p.2.kind≠4)∧(op=8→(l.map (·.1)).Nodup)
mutual
def okQ:RT→Prop
 | .mk op s n c kids=>Jqf op s n c kids.len∧Jrf op kids.list∧okQF kids
def okQF:RF→Prop
 | .nil=>True
 | .cons _ t r=>okQ t∧okQF r
end
theorem Jru {k:Int} {s:List UInt8} {n:Int} {c:Node} {kids:RF}:okQ (.mk k s n c kids) ↔ Jqf k s n c kids.len∧Jrf k kids.list∧okQF kids:=by rw [okQ]
theorem Jqo {nm:List UInt8} {t:RT} {r:RF}:okQF (.cons nm t r) ↔ okQ t∧okQF r:=by rw [okQF]
theorem Jrp:okQF .nil:=by rw [okQF];trivial
theorem Jvd:∀ {a b:RF},okQF (a.app b) ↔ okQF a∧okQF b
 | .nil,b=>by simp [RF.app,Jrp]
 | .cons nm t r,b=>by rw [RF.app,Jqo,Jqo,Jvd (a:=r)];exact and_assoc.symm
theorem J4k {nm:List UInt8} {k:Int} {s:List UInt8} {n:Int} {c:Node} {kids r:RF}:okQF (.cons nm (.mk k s n c kids) r) ↔ Jqf k s n c kids.len∧Jrf k kids.list∧okQF (kids.app r):=by
 rw [Jqo,Jru,Jvd];constructor
 ·rintro ⟨⟨h1,h2,h3⟩,h5⟩;exact ⟨h1,h2,h3,h5⟩
 ·rintro ⟨h1,h2,h3,h5⟩;exact ⟨⟨h1,h2,h3⟩,h5⟩
theorem Juf:∀ {f:RF},okQF f ↔ ∀ p∈f.list,okQ p.2
 | .nil=>by simp [RF.list,Jrp]
 | .cons nm t r=>by rw [Jqo,Juf (f:=r),RF.list,List.forall_mem_cons]
def Jyl (v:List YRow):Prop:=∃ t,okQ t∧v=t.enc []
def Js7 (v:List YRow):Prop:=∃ t,okQ t∧¬ Jqj t.kind∧v=t.enc []
open Classical in
noncomputable def Jsy (v:List YRow):Bool:=decide (Jyl v)
open Classical in
noncomputable def Jq9 (v:List YRow):Bool:=decide (Js7 v)
theorem Jsu {v:List YRow}:Jsy v=true ↔ Jyl v:=by unfold Jsy;exact @decide_eq_true_iff _ (Classical.propDecidable _)
theorem Jrr {v:List YRow}:Jq9 v=true ↔ Js7 v:=by unfold Jq9;exact @decide_eq_true_iff _ (Classical.propDecidable _)
theorem Jto {v:List YRow} (h:¬ Jyl v):false=Jsy v:=by
 cases hb:Jsy v with
 | false=>rfl
 | true=>exact absurd (Jsu.1 hb) h
theorem Jq4 {v:List YRow} (h:¬ Js7 v):false=Jq9 v:=by
 cases hb:Jq9 v with
 | false=>rfl
 | true=>exact absurd (Jrr.1 hb) h
theorem Jyi {t:RT}:Jyl (t.enc []) ↔ okQ t:=by
 constructor
 ·rintro ⟨u,hu,h⟩;obtain ⟨_,rfl⟩:=J2x h;exact hu
 ·exact fun h=>⟨t,h,rfl⟩
theorem Jr3 {t:RT}:Js7 (t.enc []) ↔ okQ t∧¬ Jqj t.kind:=by
 constructor
 ·rintro ⟨u,hu,hk,h⟩;obtain ⟨_,rfl⟩:=J2x h;exact ⟨hu,hk⟩
 ·exact fun h=>⟨t,h.1,h.2,rfl⟩
theorem J1s {v:List YRow} (h:Jyl v):Jsi v 0 1=v.length:=by
 obtain ⟨t,_,rfl⟩:=h;have:=J0r.2 ⟨[],t,rfl⟩;unfold Jsi;rw [List.drop_zero,this];simp
end Go.LX
set_option maxRecDepth 100000
set_option maxHeartbeats 2000000
namespace Go.LX
open Go Go.RowKit Go.Proofs
attribute [local irreducible] Al SWP Bi
def J3o (x y:YRow):Prop:=x.kind=y.kind∧x.many=y.many∧x.name=y.name∧x.s=y.s∧x.n=y.n∧x.c=y.c
theorem Jy8 {x y:YRow}:J3o x y ↔ x=y:=by
 obtain ⟨a1,a2,a3,a4,a5,a6⟩:=x;obtain ⟨b1,b2,b3,b4,b5,b6⟩:=y;unfold J3o;constructor
 ·rintro ⟨h1,h2,h3,h4,h5,h6⟩;simp only at h1 h2 h3 h4 h5 h6;subst h1 h2 h3 h4 h5 h6;rfl
 ·rintro h;cases h;exact ⟨rfl,rfl,rfl,rfl,rfl,rfl⟩
instance (x y:YRow):Decidable (J3o x y):=inferInstanceAs (Decidable (_∧_))
instance:DecidableEq YRow:=fun x y=>decidable_of_iff _ (Jy8 (x:=x) (y:=y))
theorem rowB {x y:YRow}:(x.kind == y.kind && (x.many == y.many && (x.name == y.name && (x.s == y.s && (x.n == y.n && (x.c.kind == y.c.kind && (x.c.many == y.c.many && (x.c.name == y.c.name && (x.c.s == y.c.s && (x.c.neg == y.c.neg && x.c.e == y.c.e))))))))))=decide (x=y):=by
 rw [Jma,Bool.eq_iff_iff,decide_eq_true_eq,← Jy8];simp [J3o]
theorem Jvn {v:List YRow} {i:Nat} {n:YRow} (h:v[i]? = some n):(rowL v)[i]? = some [.int .i64 n.kind,.int .i64 n.many,.str n.name,.str n.s,.int .i64 n.n,.int .i64 n.c.kind,.int .i64 n.c.many,.str n.c.name,.str n.c.s,.bool n.c.neg,.int .i64 n.c.e]:=Jtb h
theorem J1h (v:List YRow) (m:Nat) (hm':m≤1000) (hv:v.length≤9223372036854775807) (hf:∀ n∈v,ERow n):Det cx 13 [.p (.sl (rowL v)),.p (.int .i64 m)] [] (.p (.bool (Jrt v m))) []:=by
 (refine bgo Tryz.func13 ?_;simp only [go_sem,simprocAttr]);refine SWP.loop (fun i:Nat=>⟨Ba 43 [(0,.p (.sl (rowL v))),(1,.p (.int .i64 m)),(5,.p (.int .i64 i))],[]⟩) (fun i=>i≤v.length∧i≤m∧(v.take i).all shortY=true) (fun i=>v.length - i) 0 Jqe ⟨Nat.zero_le _,Nat.zero_le _,rfl⟩ ?_;rintro i ⟨h1,h2,h3⟩;by_cases hi:¬ i<v.length
 ·have c1:((i:Int)<(v.length:Int))=False:=eq_false omg;rw [List.take_of_length_le omg] at h3;rw [show Jrt v m=true by unfold Jrt;rw [h3,decide_eq_true omg];rfl];(refine lws ?_;simp only [go_sem,simprocAttr,Jqc,c1])
  skip
 ·have hi:=Decidable.not_not.1 hi;have c1:((i:Int)<(v.length:Int))=True:=eq_true omg;obtain ⟨n,hn⟩:∃ n,v[i]? = some n:=⟨_,List.getElem?_eq_getElem hi⟩
  have hg:=Jtb hn;have hfn:=hf n (List.mem_of_getElem? hn);obtain ⟨f1,f2,f3,f4,f5⟩:=hfn;have w1:=wj1 (i:=i) omg;have hnot:shortY n=false→Jrt v m=false:=fun h=>by
   unfold Jrt;rw [Bool.and_eq_false_iff];exact .inr (List.all_eq_false.2 ⟨n,List.mem_of_getElem? hn,by rw [h];simp⟩)
  by_cases him:(m:Int)≤(i:Int)
  ·have c2:=eq_true him;rw [show Jrt v m=false by unfold Jrt;rw [decide_eq_false omg];rfl];(refine lws ?_;simp only [go_sem,simprocAttr,Jqc,c1,c2])
   skip
  ·have c2:=eq_false him;(refine lws ?_;simp only [go_sem,simprocAttr,Jqc,c1,c2,hg,w1]);(repeat' (apply iteI <;> intro h))
   all_goals first
    | (
     refine ⟨i+1,⟨by omega,by omega,?_⟩,by omega,Jqe⟩;rw [List.take_add_one,hn,List.all_append,h3];simp [shortY];omega)
    | (exact (hnot (by unfold shortY;simp;omega)).symm)
theorem J5x (v u:List YRow) (hv:v.length≤1000000) (hu:u.length≤1000000):Det cx 50 [.p (.sl (rowL v)),.p (.sl (rowL u))] [] (.p (.bool (decide (v=u)))) []:=by
 by_cases hl:v.length=u.length
 ·have c0:((v.length:Int)=(u.length:Int))=True:=eq_true omg;(refine bgo Tryz.func50 ?_;simp only [go_sem,simprocAttr,Jqc,c0,not_true_eq_false]);refine SWP.loop (fun i:Nat=>⟨Ba 26 [(0,.p (.sl (rowL v))),(1,.p (.sl (rowL u))),(11,.p (.sl (rowL v))),(12,.p (.int .i64 v.length)),(13,.p (.int .i64 i))],[]⟩) (fun i=>i≤v.length∧v.take i=u.take i) (fun i=>v.length - i) 0 Jqe ⟨Nat.zero_le _,rfl⟩ ?_;rintro i ⟨h1,h3⟩;by_cases hi:¬ i<v.length
  ·have c1:((i:Int)<(v.length:Int))=False:=eq_false omg;(refine lws ?_;simp only [go_sem,simprocAttr,decide_false,c1]);rw [List.take_of_length_le omg,List.take_of_length_le omg] at h3;exact (decide_eq_true h3).symm
  ·have hi:=Decidable.not_not.1 hi;have c1:((i:Int)<(v.length:Int))=True:=eq_true omg;obtain ⟨x,hx⟩:∃ x,v[i]? = some x:=⟨_,List.getElem?_eq_getElem hi⟩
   obtain ⟨y,hy⟩:∃ y,u[i]? = some y:=⟨_,List.getElem?_eq_getElem omg⟩
   have hgx:=Jvn hx;have hgy:=Jvn hy;have w1:=wi1 (i:=i) omg;(refine lws ?_;simp only [go_sem,simprocAttr,c1]);(repeat' (first | (apply iteI <;> intro h)|((refine Jqi ?_);simp only [go_sem,simprocAttr,rowB,hgx,hgy,w1]) | fail))
   ·have hxy:=(show ¬ x=y by assumption)
    refine (decide_eq_false fun e=>hxy ?_).symm;subst e;rw [hx] at hy;exact Option.some.inj hy
   ·have hxy:=Decidable.not_not.1 (show ¬ ¬ x=y by assumption);subst hxy;refine ⟨i+1,⟨by omega,?_⟩,by omega,Jqe⟩;rw [List.take_add_one,List.take_add_one,h3,hx,hy]
 ·have c0:((v.length:Int)=(u.length:Int))=False:=eq_false omg;(refine bgo Tryz.func50 ?_;simp only [go_sem,simprocAttr,Jqc,c0,not_false_eq_true]);exact (decide_eq_false fun e=>hl (by rw [e])).symm
theorem Jxf (v u:List YRow) (hv:v.length≤1000000) (hu:u.length≤1000000):Det cx 17 [.p (.sl (rowL v)),.p (.sl (rowL u))] [] (.p (.bool (decide (v=u)))) []:=by
 (refine bgo Tryz.func17 ?_;simp only [go_sem,simprocAttr]);(repeat' (first | ((refine Jqa (J5x v u hv hu) ?_);simp only [go_sem,simprocAttr]) | fail))
theorem J5h (y:YRow) (ls:List (List YRow)) (hl:ls.length≤10000) (hs:∀ i,i≤ls.length→(Jrv [] ls i).length≤900000) (he:∀ v∈ls,v.length≤900000):Det cx 66 [.p (.agg [.int .i64 y.kind,.int .i64 y.many,.str y.name,.str y.s,.int .i64 y.n,.int .i64 y.c.kind,.int .i64 y.c.many,.str y.c.name,.str y.c.s,.bool y.c.neg,.int .i64 y.c.e]),.p .snil,.p (.sl (Jsm ls))] [] (.p (.sl (rowL (J50 y [] ls)))) []:=by
 generalize hhd:(⟨y.kind,ls.length,y.name,y.s,y.n,y.c⟩:YRow)=hd;have hst:rowL (hd :: Jrv [] ls 0)=[[.int .i64 y.kind,.int .i64 ls.length,.str y.name,.str y.s,.int .i64 y.n,.int .i64 y.c.kind,.int .i64 y.c.many,.str y.c.name,.str y.c.s,.bool y.c.neg,.int .i64 y.c.e]]:=by rw [← hhd];rfl
 have hst0:(Jrv [] ls 0).length=0:=rfl;have hmd:J50 y [] ls=hd :: Jrv [] ls ls.length:=by rw [← hhd];rfl
 rw [hmd];(refine bgo Tryz.func66 ?_;simp only [go_sem,simprocAttr,Jsp]);refine SWP.loop (fun i:Nat=>⟨Ba 47 [(1,.p .snil),(2,.p (.sl (Jsm ls))),(7,.own 15 0 ((Jrv [] ls i).length+1)),(8,.p (.int .i64 i))],[(15,.row 37 11 (rowL (hd :: Jrv [] ls i)))]⟩) (fun i=>i≤ls.length) (fun i=>ls.length - i) 0 (by rw [hst,hst0];exact Jqe) (Nat.zero_le _) ?_;rintro i hi;have hln:=hs i hi;have hpl:(rowL (hd :: Jrv [] ls i)).length=(Jrv [] ls i).length+1:=by rw [Jqc];rfl
 have hle0:((Jrv [] ls i).length+1≤(Jrv [] ls i).length+1)=True:=eq_true (Nat.le_refl _);by_cases hlt:i<ls.length
 ·have c1:((i:Int)<(ls.length:Int))=True:=eq_true omg;obtain ⟨v,hq⟩:∃ v,ls[i]? = some v:=⟨_,List.getElem?_eq_getElem hlt⟩
  have hg:=Jvb hq;have hv:=he v (List.mem_of_getElem? hq);have w1:IntKind.i64.wrap ((i:Int)+1)=((i+1:Nat):Int):=by rw [Aa omg omg];omega
  have c0:((i:Int)<0)=False:=eq_false omg;have hstep:Jrv [] ls (i+1)=Jrv [] ls i ++ v:=by
   rw [Jrv,J3q,if_neg sm];simp [List.getD_eq_getElem?_getD,hq]
  have e1:rowL (hd :: (Jrv [] ls i ++ v))=rowL (hd :: Jrv [] ls i) ++ rowL v:=by rw [← Jvo];rfl
  have e2:(Jrv [] ls i ++ v).length+1=(Jrv [] ls i).length+1+v.length:=by rw [List.length_append];omega
  (refine lws ?_;simp only [go_sem,simprocAttr,Jsp,c1,hg,hpl,w1,Jqc]);(repeat' (first | (refine And.intro (by first | (simp;done)|(simp;omega)|(intro q hq;exact Jt5 _ q hq)) ?_)|(refine Jqd ?_) | fail));refine ⟨i+1,by omega,by omega,?_⟩;refine (B1 [(29,15)] _ sm).trans ?_;simp only [go_sem,simprocAttr];rw [hstep,e1,e2];exact Jqe
 ·have hil:i=ls.length:=by omega
  subst hil;have c1:((ls.length:Int)<(ls.length:Int))=False:=eq_false omg;have htk:(rowL (hd :: Jrv [] ls ls.length)).take ((Jrv [] ls ls.length).length+1)=rowL (hd :: Jrv [] ls ls.length):=List.take_of_length_le (by rw [hpl];exact Nat.le_refl _);(refine lws ?_;simp only [go_sem,simprocAttr,Jsp,c1,hpl,hle0,htk])
  skip
theorem Jxd (v u:List YRow) (hv:v.length≤1000000) (hu:u.length≤1000000):Det cx 18 [.p (.sl (rowL v)),.p (.sl (rowL u))] [] (.p (.bool (decide (v=u)))) []:=by
 by_cases hl:v.length=u.length
 ·have c0:((v.length:Int)=(u.length:Int))=True:=eq_true omg;(refine bgo Tryz.func18 ?_;simp only [go_sem,simprocAttr,Jqc,c0]);refine SWP.loop (fun i:Nat=>⟨Ba 26 [(0,.p (.sl (rowL v))),(1,.p (.sl (rowL u))),(5,.p (.int .i64 i))],[]⟩) (fun i=>i≤v.length∧v.take i=u.take i) (fun i=>v.length - i) 0 Jqe ⟨Nat.zero_le _,rfl⟩ ?_;rintro i ⟨h1,h3⟩;by_cases hi:¬ i<v.length
  ·have c1:((i:Int)<(v.length:Int))=False:=eq_false omg;have hgx:=c1;have hgy:=c1;(refine lws ?_;simp only [go_sem,simprocAttr,Jqc,c1]);rw [List.take_of_length_le omg,List.take_of_length_le omg] at h3;exact (decide_eq_true h3).symm
  ·have hi:=Decidable.not_not.1 hi;have c1:((i:Int)<(v.length:Int))=True:=eq_true omg;obtain ⟨x,hx⟩:∃ x,v[i]? = some x:=⟨_,List.getElem?_eq_getElem hi⟩
   obtain ⟨y,hy⟩:∃ y,u[i]? = some y:=⟨_,List.getElem?_eq_getElem omg⟩
   have hgx:=Jvn hx;have hgy:=Jvn hy;have w1:=wi1 (i:=i) omg;(refine lws ?_;simp only [go_sem,simprocAttr,Jqc,c1]);(repeat' (first | (apply iteI <;> intro h)|((refine Jqi ?_);simp only [go_sem,simprocAttr,rowB,hgx,hgy,w1]) | fail))
   ·have hxy:=(show ¬ x=y by assumption)
    refine (decide_eq_false fun e=>hxy ?_).symm;subst e;rw [hx] at hy;exact Option.some.inj hy
   ·have hxy:=Decidable.not_not.1 (show ¬ ¬ x=y by assumption);subst hxy;refine ⟨i+1,⟨by omega,?_⟩,by omega,Jqe⟩;rw [List.take_add_one,List.take_add_one,h3,hx,hy]
 ·have c0:((v.length:Int)=(u.length:Int))=False:=eq_false omg;have c1:=c0;have hgx:=c0;have hgy:=c0;have w1:=c0;(refine bgo Tryz.func18 ?_;simp only [go_sem,simprocAttr,Jqc,c0]);exact (decide_eq_false fun e=>hl (by rw [e])).symm
theorem J51:Det cx 100 [.p .snil,.p (.int .i64 0)] [] (.p .snil) []:=by
 have w1:IntKind.i64.wrap 0=0:=by decide
 have c1:((0:Int)<0)=False:=by simp
 (refine bgo Tryz.func100 ?_;simp only [go_sem,simprocAttr,w1,c1,K9,Jjk,Hi])
 skip
theorem J6l (n:Nat) (h0:0<n) (hn:n≤1000000):Det cx 100 [.p .snil,.p (.int .i64 n)] [] (.own 900 0 0) [(900,.row 37 11 [])]:=by
 have w1:IntKind.i64.wrap 0=0:=by decide
 have c1:((0:Int)<(n:Int))=True:=eq_true omg;have w2:IntKind.i64.wrap ((n:Int) - 0)=n:=by rw [Aa omg omg];omega
 have c2:((n:Int)<0)=False:=eq_false omg;(refine bgoR true [(22,900)] Tryz.func100 ?_;simp only [go_sem,simprocAttr,w1,c1,w2,c2,K9,Jjk,Hi]);(repeat' (first | (refine Jqd ?_) | fail));omega
def Jrm (ls:List (List YRow)):List YRow:=ls.flatMap id
theorem Jza {l:List (List YRow)} {k:Nat} {p:List YRow} (h:l[k]? = some p):Jrm (l.take (k+1))=Jrm (l.take k) ++ p:=by
 unfold Jrm;rw [List.take_add_one,h,Option.toList_some,List.flatMap_append];simp
theorem J1f (l:List (List YRow)) (k:Nat):(Jrm (l.take k)).length≤(Jrm l).length:=by
 have:Jrm l=Jrm (l.take k) ++ Jrm (l.drop k):=by unfold Jrm;rw [← List.flatMap_append,List.take_append_drop]
 rw [this,List.length_append];omega
theorem J38 (l:List (List YRow)) (hll:l.length≤900000) (hne:∀ p∈l,p≠[]) (hv:(Jrm l).length≤900000):Det cx 65 [.p (.sl (Jsm l))] [] (.p (.sl (rowL (Jrm l)))) []:=by
 have z0:(Jrm []).length=0:=rfl;have z1:Jrm []=[]:=rfl;(refine bgo Tryz.func65 ?_;simp only [go_sem,simprocAttr,Jsp]);refine SWP.loop (fun k:Nat=>⟨Ba 36 [(0,.p (.sl (Jsm l))),(3,.p (.int .i64 (Jrm (l.take k)).length)),(9,.p (.sl (Jsm l))),(10,.p (.int .i64 l.length)),(11,.p (.int .i64 k))],[]⟩) (fun k=>k≤l.length) (fun k=>l.length - k) 0 (by simp only [List.take_zero,z0];exact Jqe) (Nat.zero_le _) ?_;intro k hk;by_cases hlt:¬ k<l.length
 ·have c1:((k:Int)<(l.length:Int))=False:=eq_false omg;have tk:l.take k=l:=List.take_of_length_le omg;have hg:=c1;have w1:=c1;have w2:=c1;have c2:=c1;by_cases hl0:l=[]
  ·subst hl0;have hG:=J51;(refine lws ?_;simp only [go_sem,simprocAttr,tk,z0]);(repeat' (first | (apply iteI <;> intro h)|(refine J0k ?_;intro b hb)|(refine Jqd ?_)|((refine Jqa (hG) ?_);simp only [go_sem,simprocAttr,Jsp])|(exfalso;omega)));refine SWP.loop (fun i:Nat=>⟨Ba 36 [(6,.p (.sl [])),(25,.p (.sl (Jsm []))),(26,.p (.int .i64 0)),(27,.p (.int .i64 0))],[]⟩) (fun _=>True) (fun _=>0) 0 Jqe trivial ?_;intro i _;(refine lws ?_;simp only [go_sem,simprocAttr]);rw [z1];rfl
  ·have hpos:0<(Jrm l).length:=by
    cases l with
    | nil=>exact absurd rfl hl0
    | cons p l =>
     have h1:=hne p List.mem_cons_self;unfold Jrm;rw [List.flatMap_cons,List.length_append];have:0<p.length:=List.length_pos_iff.2 h1;simp only [id];omega
   have hG:=J6l (Jrm l).length hpos omg;(refine lws ?_;simp only [go_sem,simprocAttr,c1,tk]);(repeat' (first | ((refine Jqa (hG) ?_);simp only [go_sem,simprocAttr,Jsp]) | fail));refine Jsr (B1 [(24,33)] _ sm) ?_;simp only [go_sem,simprocAttr];refine SWP.loop (fun k:Nat=>⟨Ba 36 [(6,.own 33 0 (Jrm (l.take k)).length),(25,.p (.sl (Jsm l))),(26,.p (.int .i64 l.length)),(27,.p (.int .i64 k))],[(33,.row 37 11 (rowL (Jrm (l.take k))))]⟩) (fun k=>k≤l.length) (fun k=>l.length - k) 0 (by simp only [List.take_zero,z0,z1,J5s];exact Jqe) (Nat.zero_le _) ?_;intro j hj;by_cases hjt:¬ j<l.length
   ·have d1:((j:Int)<(l.length:Int))=False:=eq_false omg;have tj:l.take j=l:=List.take_of_length_le omg;have tv:(rowL (Jrm l)).take (Jrm l).length=rowL (Jrm l):=List.take_of_length_le sm;have lv:((Jrm l).length≤(Jrm l).length)=True:=eq_true (Nat.le_refl _);have hg2:=d1;have w3:=d1;(refine lws ?_;simp only [go_sem,simprocAttr,Jqc,d1,tj,tv,lv])
    skip
   ·have hjt:=Decidable.not_not.1 hjt;have d1:((j:Int)<(l.length:Int))=True:=eq_true omg;obtain ⟨p,hp⟩:∃ p,l[j]? = some p:=⟨_,List.getElem?_eq_getElem hjt⟩
    have hg2:(Jsm l)[j]? = some [.sl (rowL p)]:=by exact Jvb hp
    have hs:=J1f l (j+1);have h1:=Jza hp;rw [h1,List.length_append] at hs;have w3:=wj1 (i:=j) omg;have tj:=d1;have tv:=d1;have lv:=d1;(refine lws ?_;simp only [go_sem,simprocAttr,Jqc,d1,hg2,w3]);refine ⟨Jt5 _,by omega,by omega,?_⟩;refine ⟨j+1,hjt,by omega,?_⟩;rw [h1,List.length_append,Jvo];exact Jqe
 ·have hlt:=Decidable.not_not.1 hlt;have c1:((k:Int)<(l.length:Int))=True:=eq_true omg;obtain ⟨p,hp⟩:∃ p,l[k]? = some p:=⟨_,List.getElem?_eq_getElem hlt⟩
  have hg:(Jsm l)[k]? = some [.sl (rowL p)]:=by exact Jvb hp
  have hs:=J1f l (k+1);have h1:=Jza hp;rw [h1,List.length_append] at hs;have tk:=c1;have w1:=wj1 (i:=k) omg;have w2:IntKind.i64.wrap (((Jrm (l.take k)).length:Int)+(p.length:Int))=(((Jrm (l.take k)).length+p.length:Nat):Int):=by rw [Aa omg omg];omega
  have c2:((((Jrm (l.take k)).length+p.length:Nat):Int)<0)=False:=eq_false omg;have d1:=c1;have tj:=c1;have tv:=c1;have lv:=c1;have hg2:=c1;have w3:=c1;(refine lws ?_;simp only [go_sem,simprocAttr,Jqc,c1,hg,w1,w2,c2]);refine ⟨k+1,hlt,by omega,?_⟩;rw [h1,List.length_append];exact Jqe
end Go.LX
namespace Go.LX
open Go
def nmT (s:List UInt8):List UInt8:=if isWd s then s else refQ s
def Jrw (c:Node):List UInt8:=if c.kind=0 then [110,117,108,108] else if c.kind=1 then [102,97,108,115,101] else if c.kind=2 then [116,114,117,101] else if c.kind=3 then Jq5 c else refQ c.s
def Jrb (n:Int):List UInt8:=if n=0 then [61,61] else if n=1 then [33,61] else if n=2 then [60] else if n=3 then [60,61] else if n=4 then [62] else [62,61]
def Jra (op:Int):List UInt8:=if op=5 then [109,97,112] else if op=6 then [109,97,112,95,118,97,108,117,101,115] else if op=7 then [115,101,108,101,99,116] else if op=12 then [103,114,111,117,112,95,98,121] else if op=13 then [115,111,114,116,95,98,121] else if op=15 then [100,101,108] else []
def inBr (k:Int) (x:List UInt8):List UInt8:=if k=4∨k=17∨k=18 then 40 :: (x ++ [41]) else x
def Jse (sep:List UInt8):List (List UInt8)→List UInt8
 | []=>[]
 | [x]=>x
 | x :: y :: l=>x ++ sep ++ Jse sep (y :: l)
abbrev PTx:=List UInt8×Int×List UInt8
def oneT (op:Int) (p:PTx):List UInt8:=if op=8 then nmT p.1 ++ [58,32] ++ inBr p.2.1 p.2.2 else inBr p.2.1 p.2.2
def Jri (op:Int) (l:List PTx) (sep:List UInt8):List UInt8:=Jse sep (l.map (oneT op))
def Jqw:List PTx→List UInt8
 | []=>[]
 | p :: _=>p.2.2
def Jqm (op:Int) (s:List UInt8) (n:Int) (c:Node) (l:List PTx):List UInt8 :=
 if op=0 then [46]
 else if op=1 then 46 :: nmT s
 else if op=2 then [46,91] ++ Lib.itoa n ++ [93]
 else if op=3 then [46,91] ++ Lib.itoa n ++ [58,93]
 else if op=4 then (match l with
  | [p,q]=>inBr p.2.1 p.2.2 ++ [32,124,32] ++ q.2.2
  | _=>[])
 else if op=8 then 123 :: (Jri op l [44,32] ++ [125])
 else if op=9 then 91 :: (Jri op l [44,32] ++ [93])
 else if op=10 then [116,111,95,101,110,116,114,105,101,115]
 else if op=11 then [102,114,111,109,95,101,110,116,114,105,101,115]
 else if op=14 then [114,101,118,101,114,115,101]
 else if op=16 then s ++ [32] ++ Jrb n ++ [32] ++ Jrw c
 else if op=17 then Jri op l [32,97,110,100,32]
 else if op=18 then Jri op l [32,111,114,32]
 else if op=19 then 40 :: (Jqw l ++ [32,124,32,110,111,116,41])
 else Jra op ++ [40] ++ (if l=[] then s else Jqw l) ++ [41]
mutual
def Jql:RT→List UInt8
 | .mk k s n c kids=>Jqm k s n c (Jqg kids)
def Jqg:RF→List PTx
 | .nil=>[]
 | .cons nm t r=>(nm,t.kind,Jql t) :: Jqg r
end
theorem Jr0 {k:Int} {s:List UInt8} {n:Int} {c:Node} {kids:RF}:Jql (.mk k s n c kids)=Jqm k s n c (Jqg kids):=by rw [Jql]
theorem Jum:∀ f:RF,Jqg f=f.list.map fun p=>(p.1,p.2.kind,Jql p.2)
 | .nil=>by rw [Jqg];rfl
 | .cons nm t r=>by rw [Jqg,Jum r];rfl
theorem Js1 (f:RF):(Jqg f).length=f.len:=by rw [Jum,List.length_map,Jqx]
theorem Jxv {f:RF} {i:Nat} {p:RKT} (h:f.list[i]? = some p):(Jqg f)[i]? = some (p.1,p.2.kind,Jql p.2):=by rw [Jum,List.getElem?_map,h];rfl
theorem Jz8 (s:List UInt8):(nmT s).length≤6 * s.length+2:=by
 have:=Jd4 s;unfold nmT;split <;> omega
theorem Juv (k:Int) (x:List UInt8):(inBr k x).length≤x.length+2:=by
 unfold inBr;split <;> simp
theorem J57 (n:Int):(Jrb n).length≤2:=by
 unfold Jrb
 repeat' split
 all_goals simp
theorem J47 (op:Int):(Jra op).length≤10:=by
 unfold Jra
 repeat' split
 all_goals simp
def sumT (l:List (List UInt8)):Nat:=(l.map List.length).sum
theorem J0p (sep:List UInt8):∀ l:List (List UInt8),(Jse sep l).length≤sumT l+sep.length * l.length
 | []=>by simp [Jse,sumT]
 | [x]=>by simp [Jse,sumT]
 | x :: y :: l=>by
  have:=J0p sep (y :: l);simp only [sumT,List.map_cons,List.sum_cons,List.length_cons] at this ⊢;rw [Jse,List.length_append,List.length_append,Nat.mul_add];omega
def QFit (s:List UInt8) (n:Int) (c:Node):Prop:=s.length≤100∧c.s.length≤100∧-9223372036854775808≤n∧n≤9223372036854775807∧-9223372036854775808≤c.e∧c.e≤9223372036854775807
mutual
def fitQ:RT→Prop
 | .mk _ s n c kids=>QFit s n c∧Jro kids
def Jro:RF→Prop
 | .nil=>True
 | .cons nm t r=>nm.length≤100∧fitQ t∧Jro r
end
theorem Jrx {n:Int} (h0:-9223372036854775808≤n) (h1:n≤9223372036854775807):(Lib.itoa n).length≤21:=Lib.itoa_length_le n h0 h1
theorem Juc (n:Nat):(Lib.repeatL [48] n).length=n:=by rw [Lib.repeatL_length];simp
theorem Jw0 {c:Node} (hs:c.s.length≤100) (h0:-9223372036854775808≤c.e) (h1:c.e≤9223372036854775807):(Jq5 c).length≤200:=by
 have hg:(Jq7 c).length≤1:=by unfold Jq7;split <;> simp
 have hi:=Jrx h0 h1;unfold Jq5;split
 ·simp
 ·split
  ·rw [List.length_append,List.length_append,Juc];omega
  ·split
   ·rename_i h2 _ h3;simp only [List.length_append,List.length_take,List.length_drop,Juc,List.length_cons,List.length_nil];omega
   ·simp only [List.length_append,List.length_cons,List.length_nil];omega
theorem Jxn {c:Node} (hs:c.s.length≤100) (h0:-9223372036854775808≤c.e) (h1:c.e≤9223372036854775807):(Jrw c).length≤700:=by
 have h2:=Jw0 hs h0 h1;have h3:=Jd4 c.s;unfold Jrw
 repeat' split
 all_goals first | omega | simp
theorem J7h {op:Int} {p:PTx} (hn:p.1.length≤100):(oneT op p).length≤p.2.2.length+610:=by
 have h1:=Jz8 p.1;have h2:=Juv p.2.1 p.2.2;unfold oneT;split
 ·simp only [List.length_append,List.length_cons,List.length_nil];omega
 ·omega
def sumP (l:List PTx):Nat:=(l.map fun p=>p.2.2.length).sum
theorem Js4 {op:Int} {sep:List UInt8} (hs:sep.length≤5):∀ {l:List PTx},(∀ p∈l,p.1.length≤100)→(Jri op l sep).length≤sumP l+615 * l.length:=by
 intro l h;have h1:=J0p sep (l.map (oneT op));have h2:sumT (l.map (oneT op))≤sumP l+610 * l.length:=by
  clear h1
  induction l with
  | nil=>simp [sumT,sumP]
  | cons p l ih =>
   have:=ih fun q hq=>h q (List.mem_cons_of_mem _ hq)
   have h3:=J7h (op:=op) (h p List.mem_cons_self);simp only [sumT,sumP,List.map_cons,List.sum_cons,List.length_cons] at this ⊢;omega
 have h3:sep.length * l.length≤5 * l.length:=Nat.mul_le_mul_right _ hs;rw [List.length_map] at h1;unfold Jri;omega
theorem J4c (l:List PTx):(Jqw l).length≤sumP l:=by
 cases l with
 | nil=>simp [Jqw]
 | cons p l=>simp [Jqw,sumP]
theorem Jtj {c:Prop} [Decidable c] {a b:List UInt8} {n:Nat} (ha:a.length≤n) (hb:b.length≤n):(if c then a else b).length≤n:=by split <;> assumption
theorem J4z {op:Int} {s:List UInt8} {n:Int} {c:Node} {l:List PTx} (h:QFit s n c) (hl:∀ p∈l,p.1.length≤100):(Jqm op s n c l).length≤sumP l+615 * l.length+1400:=by
 obtain ⟨a1,a2,a3,a4,a5,a6⟩:=h;have h1:=Jz8 s;have h2:=Jrx a3 a4;have h3:=Jxn a2 a5 a6;have h4:=J57 n;have h5:=J47 op;have h6:=J4c l;have h7:=Js4 (op:=op) (sep:=[44,32]) sm hl;unfold Jqm;refine Jtj ?_ ?_
 ·show 1≤_;omega
 refine Jtj ?_ ?_
 ·rw [List.length_cons];omega
 refine Jtj ?_ ?_
 ·simp only [List.length_append,List.length_cons,List.length_nil];omega
 refine Jtj ?_ ?_
 ·simp only [List.length_append,List.length_cons,List.length_nil];omega
 refine Jtj ?_ ?_
 ·split
  ·rename_i p q;have:=Juv p.2.1 p.2.2;simp only [List.length_append,List.length_cons,List.length_nil,sumP,List.map_cons,List.map_nil,List.sum_cons,List.sum_nil];omega
  ·exact Nat.le_trans (by decide:_≤20) omg
 refine Jtj ?_ ?_
 ·simp only [List.length_append,List.length_cons,List.length_nil];omega
 refine Jtj ?_ ?_
 ·simp only [List.length_append,List.length_cons,List.length_nil];omega
 refine Jtj ?_ ?_
 ·exact Nat.le_trans (by decide:_≤20) omg
 refine Jtj ?_ ?_
 ·exact Nat.le_trans (by decide:_≤20) omg
 refine Jtj ?_ ?_
 ·exact Nat.le_trans (by decide:_≤20) omg
 refine Jtj ?_ ?_
 ·simp only [List.length_append,List.length_cons,List.length_nil];omega
 refine Jtj ?_ ?_
 ·have:=Js4 (op:=op) (sep:=[32,97,110,100,32]) sm hl;omega
 refine Jtj ?_ ?_
 ·have:=Js4 (op:=op) (sep:=[32,111,114,32]) sm hl;omega
 refine Jtj ?_ ?_
 ·simp only [List.length_append,List.length_cons,List.length_nil];omega
 ·simp only [List.length_append,List.length_cons,List.length_nil];split <;> omega
mutual
theorem Jre:∀ (t:RT),fitQ t→∀ nm,(Jql t).length+615≤2100 * (t.enc nm).length
 | .mk k s n c kids,h,nm=>by
  rw [fitQ] at h;obtain ⟨h1,h2⟩:=h;have h3:=Jsz kids h2;have h4:=J4z (op:=k) (l:=Jqg kids) h1 h3.1;have h5:=Js1 kids;have h6:=Jqz kids;rw [Jr0,Jqk,List.length_cons];omega
theorem Jsz:∀ (f:RF),Jro f→(∀ p∈Jqg f,p.1.length≤100)∧sumP (Jqg f)+615 * f.len≤2100 * f.enc.length
 | .nil,_=>by simp [Jqg,sumP,RF.len]
 | .cons nm t r,h=>by
  rw [Jro] at h;have h1:=Jre t h.2.1 nm;obtain ⟨h2,h3⟩:=Jsz r h.2.2;rw [Jqg];refine ⟨List.forall_mem_cons.2 ⟨h.1,h2⟩,?_⟩;rw [Jqh,List.length_append];simp only [sumP,List.map_cons,List.sum_cons,Js0] at h3 ⊢;omega
end
theorem Jzn {F G:RF} {r s:List YRow} (h:F.enc ++ r=G.enc ++ s) (hl:F.len=G.len):F=G∧r=s:=by
 have e1:=Jz4 (L:=(F.enc ++ r).length) F.enc.length F r (Nat.le_refl _) sm;have e2:=Jz4 (L:=(F.enc ++ r).length) G.enc.length G s (Nat.le_refl _) (by rw [h];simp);rw [← h,← hl,e1] at e2;injection e2 with e2
 obtain ⟨h1,h2⟩:=List.append_inj h e2;exact ⟨J25 _ (Nat.le_refl _) hl h1,h2⟩
theorem Jwi {t u:RT} {a b:List UInt8} {r s:List YRow} (h:t.enc a ++ r=u.enc b ++ s):a=b∧t=u∧r=s:=by
 obtain ⟨h1,h2⟩:=Jzn (F:=.cons a t .nil) (G:=.cons b u .nil) (r:=r) (s:=s) (by rw [Jqh,Jqh,Jq0,List.append_nil,List.append_nil];exact h) rfl;injection h1 with h3 h4 _
 exact ⟨h3,h4,h2⟩
theorem J13 {v:List YRow} {y:YRow} (h:Js7 v):¬ Js7 (v ++ [y]):=by
 obtain ⟨t,_,_,rfl⟩:=h;rintro ⟨u,_,_,hu⟩;obtain ⟨_,_,h3⟩:=Jwi (r:=[y]) (s:=[]) (by rw [List.append_nil];exact hu);cases h3
theorem J7j {v:List YRow} (h:Js7 v):¬ Js7 (v.take (v.length - 1)):=by
 obtain ⟨t,_,_,hv⟩:=id h;have hp:=Jrj t [];rw [← hv] at hp;intro h';have hl:v=v.take (v.length - 1) ++ [v.getLast (by intro e;rw [e] at hp;simp at hp)]:=by
  rw [← List.dropLast_eq_take];exact (List.dropLast_concat_getLast _).symm
 rw [hl] at h;exact J13 h' h
def two (a b:RT):RT:=.mk 4 [] 0 Jqt (.cons [] a (.cons [] b .nil))
mutual
def Jq2:RT→RT→RT
 | .mk k s n c kids,u=>if k=4 then .mk 4 [] 0 Jqt (pipeF kids u) else two (.mk k s n c kids) u
def pipeF:RF→RT→RF
 | .nil,_=>.nil
 | .cons _ a r,u=>.cons [] a (pipeG r u)
def pipeG:RF→RT→RF
 | .nil,_=>.nil
 | .cons _ b _,u=>.cons [] (Jq2 b u) .nil
end
theorem ok_two {k:Int} {s:List UInt8} {n:Int} {c:Node} {kids:RF} (h:okQ (.mk k s n c kids)) (hk:k=4):∃ a b,RT.mk k s n c kids=two a b∧okQ a∧okQ b∧¬ Jqj a.kind∧¬ Jqj b.kind∧a.kind≠4:=by
 subst hk;obtain ⟨h1,⟨h2,h3,_⟩,h4⟩:=Jru.1 h;have e:s=[]∧n=0∧c=Jqt∧(kids.len:Int)=2:=by
  unfold Jqf at h1;rw [if_neg omg,if_neg omg,if_neg omg,if_pos omg] at h1;exact h1
 obtain ⟨rfl,rfl,rfl,h5⟩:=e
 match kids,h5,h2,h3,h4 with
 | .nil,h5,_,_,_=>simp [RF.len] at h5
 | .cons na a .nil,h5,_,_,_=>simp [RF.len] at h5
 | .cons na a (.cons nb b (.cons nc d r)),h5,_,_,_=>simp only [RF.len] at h5;omega
 | .cons na a (.cons nb b .nil),_,h2,h3,h4 =>
  have q1:=h2 (na,a) (by simp [RF.list]);have q2:=h2 (nb,b) (by simp [RF.list]);have e1:na=[]:=q1.2.1 omg;have e2:nb=[]:=q2.2.1 omg;subst e1 e2;obtain ⟨g1,g2⟩:=Jqo.1 h4;obtain ⟨g3,_⟩:=Jqo.1 g2;have c4:¬ (Jqj 4∨(4:Int)=7):=by unfold Jqj;omega
  exact ⟨a,b,rfl,g1,g3,fun h=>c4 (q1.1.1 h),fun h=>c4 (q2.1.1 h),h3 rfl ([],a) rfl⟩
theorem Jr1 {a b u:RT}:Jq2 (two a b) u=two a (Jq2 b u):=by
 unfold two;rw [Jq2,if_pos rfl,pipeF,pipeG]
theorem Jry {t u:RT} (h:t.kind≠4):Jq2 t u=two t u:=by
 cases t with
 | mk k s n c kids=>exact (by rw [Jq2];exact if_neg h)
theorem Jzm (t u:RT):(Jq2 t u).kind=4:=by
 cases t with
 | mk k s n c kids=>rw [Jq2];split <;> rfl
theorem Jsg {a b:RT} {nm:List UInt8}:(two a b).enc nm=⟨4,2,nm,[],0,Jqt⟩ :: (a.enc [] ++ b.enc []):=by
 unfold two;rw [Jqk,Jqh,Jqh,Jq0,List.append_nil];rfl
theorem Jui {a b:RT} (ha:okQ a) (hb:okQ b) (ca:¬ Jqj a.kind) (cb:¬ Jqj b.kind) (h4:a.kind≠4):okQ (two a b):=by
 have c4:¬ (Jqj 4∨(4:Int)=7):=by unfold Jqj;omega
 refine Jru.2 ⟨?_,⟨?_,?_,?_⟩,Jqo.2 ⟨ha,Jqo.2 ⟨hb,Jrp⟩⟩⟩
 ·unfold Jqf;rw [if_neg omg,if_neg omg,if_neg omg,if_pos omg];exact ⟨rfl,rfl,rfl,rfl⟩
 ·intro p hp;simp only [RF.list,List.mem_cons,List.not_mem_nil,or_false] at hp;rcases hp with rfl | rfl
  ·exact ⟨⟨fun h=>absurd h ca,fun h=>absurd h c4⟩,fun _=>rfl,fun h=>absurd h omg⟩
  ·exact ⟨⟨fun h=>absurd h cb,fun h=>absurd h c4⟩,fun _=>rfl,fun h=>absurd h omg⟩
 ·intro _ p hp;cases hp;exact h4
 ·intro h;exact absurd h omg
theorem Jst {M:RT→Prop} (h1:∀ t,okQ t→¬ Jqj t.kind→t.kind≠4→M t) (h2:∀ a b,okQ a→okQ b→¬ Jqj a.kind→¬ Jqj b.kind→a.kind≠4→M b→M (two a b)):∀ (n:Nat) (t:RT),(t.enc []).length≤n→okQ t→¬ Jqj t.kind→M t
 | 0,t,h,_,_=>by have:=Jrj t [];omega
 | n+1,.mk k s m c kids,h,ho,hc=>by
  by_cases hk:k=4
  ·obtain ⟨a,b,e,ha,hb,ca,cb,h4⟩:=ok_two ho hk;rw [e] at h ⊢;rw [Jsg] at h;simp only [List.length_cons,List.length_append] at h;exact h2 a b ha hb ca cb h4 (Jst h1 h2 n b omg hb cb)
  ·exact h1 _ ho hc hk
theorem J3m {t u:RT} (ht:okQ t) (ct:¬ Jqj t.kind) (hu:okQ u) (cu:¬ Jqj u.kind):okQ (Jq2 t u):=by
 have c4:¬ Jqj 4:=by unfold Jqj;omega
 refine Jst (M:=fun t=>okQ (Jq2 t u)) (fun t h1 h2 h3=>?_) (fun a b ha hb ca cb h4 ih=>?_) _ t (Nat.le_refl _) ht ct
 ·rw [Jry h3];exact Jui h1 hu h2 cu h3
 ·rw [Jr1];exact Jui ha ih ca (by rw [Jzm];exact c4) h4
theorem Jtu {t u:RT} (ht:okQ t) (ct:¬ Jqj t.kind):((Jq2 t u).enc []).length=(t.enc []).length+(u.enc []).length+1:=by
 refine Jst (M:=fun t=>((Jq2 t u).enc []).length=(t.enc []).length+(u.enc []).length+1) (fun t h1 h2 h3=>?_) (fun a b ha hb ca cb h4 ih=>?_) _ t (Nat.le_refl _) ht ct
 ·rw [Jry h3,Jsg];simp
 ·rw [Jr1,Jsg,Jsg];simp only [List.length_cons,List.length_append,ih];omega
theorem J2w {t u w:RT} (ht:okQ t) (ct:¬ Jqj t.kind):Jq2 (Jq2 t u) w=Jq2 t (Jq2 u w):=by
 refine Jst (M:=fun t=>Jq2 (Jq2 t u) w=Jq2 t (Jq2 u w)) (fun t h1 h2 h3=>?_) (fun a b ha hb ca cb h4 ih=>?_) _ t (Nat.le_refl _) ht ct
 ·rw [Jry h3,Jry h3,Jr1]
 ·rw [Jr1,Jr1,Jr1,ih]
theorem Jx4 {a b:RT} (ca:¬ Jqj a.kind) (h4:a.kind≠4):Jql (two a b)=Jql a ++ [32,124,32] ++ Jql b:=by
 have hi:inBr a.kind (Jql a)=Jql a:=by
  unfold inBr;rw [if_neg];unfold Jqj at ca;omega
 unfold two;rw [Jr0,Jqg,Jqg,Jqg];unfold Jqm;rw [if_neg omg,if_neg omg,if_neg omg,if_neg omg,if_pos rfl];simp only [hi]
theorem J4p {t u:RT} (ht:okQ t) (ct:¬ Jqj t.kind):Jql (Jq2 t u)=Jql t ++ [32,124,32] ++ Jql u:=by
 refine Jst (M:=fun t=>Jql (Jq2 t u)=Jql t ++ [32,124,32] ++ Jql u) (fun t h1 h2 h3=>?_) (fun a b ha hb ca cb h4 ih=>?_) _ t (Nat.le_refl _) ht ct
 ·rw [Jry h3,Jx4 h2 h3]
 ·rw [Jr1,Jx4 ca h4,Jx4 ca h4,ih];simp only [List.append_assoc]
theorem J4q {y:YRow} {r:List YRow} (h:y.name≠[]):¬ Js7 (y :: r):=by
 rintro ⟨⟨k,s,n,c,kids⟩,_,_,e⟩;rw [Jqk] at e;injection e with e1 _
 subst e1;exact h rfl
theorem J6t {y:YRow} {r:List YRow} (h:y.kind<0∨15<y.kind):¬ Js7 (y :: r):=by
 rintro ⟨⟨k,s,n,c,kids⟩,ho,hc,e⟩;rw [Jqk] at e;injection e with e1 _
 subst e1;have h1:=(Jru.1 ho).1;simp only [RT.kind,Jqj] at hc;simp only at h;unfold Jqf at h1;rw [if_neg omg,if_neg omg,if_neg omg,if_neg omg,if_neg omg,if_neg omg,if_neg omg,if_neg omg] at h1;exact h1
end Go.LX
namespace Go.LX
open Go Go.RowKit Go.Proofs
attribute [local irreducible] Al SWP Bi
theorem J6h (c:List PV) (cs:List (List PV)) (h6:∀ q∈c :: cs,q.length=11) (hl:cs.length≤1000000):Det cx 90 [.p (.sl (c :: cs))] [] (.own 900 0 (cs.length+1)) [(900,.row 37 11 (c :: cs))]:=by
 (refine bgoR true [(7,900)] Tryz.func90 ?_;simp only [go_sem,simprocAttr]);(repeat' (first | (refine Jqd ?_) | fail));omega
theorem J3l (v:List YRow):Det cx 51 [.p (.sl (rowL v))] [] (.fn 89 [900]) [(900,.var 23 [.p (.sl (rowL v))])]:=by
 (refine bgoR true [(1,900)] Tryz.func51 ?_;simp only [go_sem,simprocAttr])
def Jr4 (f:RF):List (List PV):=f.list.map fun p=>[.str p.1,.sl (rowL (p.2.enc []))]
theorem Jt2 (f:RF):(Jr4 f).length=f.len:=by simp [Jr4,Jqx]
theorem J3i (nm:List UInt8) (kd:Int) (s:List UInt8) (g:Int) (e:Node) (kids:RF) (hv:kids.enc.length≤999999):Tb cx 89 [.eptr [.sl (rowL ((RT.mk kd s g e kids).enc nm))]] (Jr4 kids):=by
 have hl:=Jqz kids;generalize hvv:(RT.mk kd s g e kids).enc nm=v;have h0:v.drop 0=⟨kd,kids.len,nm,s,g,e⟩ :: kids.enc:=by rw [← hvv,Jqk];rfl
 have hg0:=Jr8 h0;rw [Jrc] at hg0;have hvl:v.length=kids.enc.length+1:=by rw [← hvv,Jqk];rfl
 (refine Jym (X:=cx) Tryz.func89 kr rfl kr (by simp only [List.length_cons,List.length_nil,Tryz.ntmps89];decide) fun l=>?_;refine N9 _ _ _ _ ?_;simp only [Tryz.ntmps89,go_sem,simprocAttr,hg0]);refine JWP.loop (fun x:Nat×Nat×RF=>(some x.1,⟨Ba 45 [(0,.yld l),(1,.eptr [.sl (rowL v)]),(3,.p (.int .i64 x.2.1)),(10,.p (.int .i64 kids.len)),(11,.p (.int .i64 x.1))],[]⟩)) (fun x=>x.1+x.2.2.len=kids.len∧v.drop x.2.1=x.2.2.enc∧x.2.1+x.2.2.enc.length=v.length∧(Jr4 kids).drop x.1=Jr4 x.2.2) (fun x=>x.2.2.enc.length) (0,1,kids) rfl Jqe ⟨by simp,by rw [← hvv,Jqk];rfl,by simp only;omega,rfl⟩ ?_;rintro ⟨k,j,F⟩ ⟨h1,h2,h3,h4⟩;simp only at h1 h2 h3 h4 ⊢
 match F,h1,h2,h3,h4 with
 | .nil,h1,h2,h3,h4 =>
  simp only [RF.len] at h1;have c1:((k:Int)<(kids.len:Int))=False:=eq_false omg;(refine N9 _ _ _ _ ?_;simp only [go_sem,simprocAttr,c1]);rw [Jt2];exact .inl (by first | (congr 1;done)|(congr 1;omega))
 | .cons nm' (.mk k' s' g' e' kids') r,h1,h2,h3,h4 =>
  rw [Js0] at h1;rw [Jqh] at h2 h3;rw [List.length_append] at h3;have hs:=Jzg h2;rw [Jqk] at h3;simp only [List.length_cons] at h3;have hs':((rowL v).drop j).take (j+((RT.mk k' s' g' e' kids').enc nm').length - j)=[.int .i64 k',.int .i64 kids'.len,.str nm',.str s',.int .i64 g',.int .i64 e'.kind,.int .i64 e'.many,.str e'.name,.str e'.s,.bool e'.neg,.int .i64 e'.e] :: rowL kids'.enc:=by
   rw [Nat.add_sub_cancel_left,hs,Jqk,Jsq,Jrc]
  have h2':=h2;rw [Jqk] at h2';have hg:=Jr8 h2';rw [Jrc] at hg;have hel:((RT.mk k' s' g' e' kids').enc nm').length=kids'.enc.length+1:=by rw [Jqk];rfl
  have h6:∀ q∈[.int .i64 k',.int .i64 kids'.len,.str nm',.str s',.int .i64 g',.int .i64 e'.kind,.int .i64 e'.many,.str e'.name,.str e'.s,.bool e'.neg,.int .i64 e'.e] :: rowL kids'.enc,q.length=11:=fun q hq=>Jt5 ((RT.mk k' s' g' e' kids').enc nm') q (by rw [Jqk];exact hq)
  have htk:(rowL kids'.enc).take kids'.enc.length=rowL kids'.enc:=List.take_of_length_le sm;have c1:((k:Int)<(kids.len:Int))=True:=eq_true omg;(refine N9 _ _ _ _ ?_;simp only [go_sem,simprocAttr,c1,wj1 (i:=k) omg]);refine JWP.loop (fun x:Nat×Nat×RF=>(some k,⟨Ba 45 [(0,.yld l),(1,.eptr [.sl (rowL v)]),(3,.p (.int .i64 j)),(4,.p (.int .i64 x.1)),(5,.p (.int .i64 x.2.1)),(10,.p (.int .i64 kids.len)),(11,.p (.int .i64 k))],[]⟩)) (fun x=>x.2.1=x.2.2.len∧v.drop x.1=x.2.2.enc ++ r.enc∧x.1+x.2.2.enc.length=j+((RT.mk k' s' g' e' kids').enc nm').length) (fun x=>x.2.2.enc.length) (j,1,.cons nm' (.mk k' s' g' e' kids') .nil) rfl Jqe ⟨rfl,by simp [Jqh,Jq0,h2],by simp [Jqh,Jq0]⟩ ?_;rintro ⟨i,left,G⟩ ⟨p0,p1,p2⟩;simp only at p0 p1 p2
  match G,p0,p1,p2 with
  | .nil,p0,p1,p2 =>
   rw [Jq0] at p2;simp only [List.length_nil,Nat.add_zero] at p2;simp only [RF.len] at p0;subst p0;subst p2;(refine N9 _ _ _ _ ?_;simp only [go_sem,simprocAttr,hs',Jqc,wj1 (i:=k) omg]);(repeat' (first | (refine And.intro (Jt5 _) ?_)|(refine Jqd ?_)|((refine Jqa (J6h _ _ h6 (by rw [Jqc];omega)) ?_);simp only [go_sem,simprocAttr,htk,Nat.le_refl,hg,Jqc,wj1 (i:=k) omg]) | fail));refine ⟨?_,⟨(k+1,j+((RT.mk k' s' g' e' kids').enc nm').length,r),⟨by simp only;omega,by simp only;rw [← List.drop_drop,h2,List.drop_left],by simp only;omega,by simp only;rw [← List.drop_drop,h4];rfl⟩,by simp only [Jqh,List.length_append];omega,rfl,Jqe⟩,.inr trivial⟩;have:=congrArg (·[0]?) h4;simp only [List.getElem?_drop,Nat.add_zero] at this;rw [this];simp [Jr4,RF.list,Jqk,Jsq,Jrc]
  | .cons nm2 (.mk k2 s2 g2 e2 kids2) r2,p0,p1,p2 =>
   rw [Js0] at p0;rw [Jqh,Jqk] at p1 p2;have hg2:=Jr8 p1;rw [Jrc] at hg2;simp only [List.length_cons,List.length_append] at p2;have hl1:=Jqz kids2;have hl2:=Jqz r2;have w0:IntKind.i64.wrap ((kids2.len:Int) - 1)=(kids2.len:Int) - 1:=Aa omg omg;have w1:IntKind.i64.wrap ((left:Int)+((kids2.len:Int) - 1))=((r2.len+kids2.len:Nat):Int):=by rw [Aa omg omg];omega
   have c2:((0:Int)<(left:Int))=True:=eq_true omg;(refine N9 _ _ _ _ ?_;simp only [go_sem,simprocAttr,wj1 (i:=k) omg,c2,wj1 (i:=i) omg,hg2,w0,w1])
   all_goals exact ⟨(i+1,r2.len+kids2.len,kids2.app r2),⟨by simp only [Jrn];omega,by
    simp only [Jqp];rw [← List.drop_drop,p1];simp,by simp only [Jqp,List.length_append];omega⟩,by simp only [Jqp,Jqh,Jqk,List.length_append,List.length_cons];omega,Jqe⟩
theorem Jvu {f:RF} {k:Nat} {x:List PV} (h:(Jr4 f)[k]? = some x):∃ p,f.list[k]? = some p∧x=[.str p.1,.sl (rowL (p.2.enc []))]:=by
 unfold Jr4 at h;rw [List.getElem?_map] at h;obtain ⟨p,h1,h2⟩:=Option.map_eq_some_iff.1 h;exact ⟨p,h1,h2.symm⟩
theorem Jvc {f:RF} {x:List PV} (h:x∈Jr4 f):x.length=2:=by
 obtain ⟨p,_,rfl⟩:=List.mem_map.1 h;rfl
theorem Jua (nm:List UInt8) (kd:Int) (s:List UInt8) (g:Int) (e:Node) (kids:RF) (hv:kids.enc.length≤999999):Det cx 19 [.p (.sl (rowL ((RT.mk kd s g e kids).enc nm)))] [] (.p (.sl (Jqq kids.list))) []:=by
 (refine bgo Tryz.func19 ?_;simp only [go_sem,simprocAttr]);(repeat' (first | ((refine Jqa (J3l _) ?_);simp only [go_sem,simprocAttr]) | fail));(refine SWP.range (Jr4 kids) 15 [(13,900)] sm _ _ _ _ _ (fun k R=>R=if k=0 then [(1000,.var 28 [.p .snil])] else [(900,.row 23 1 (Jqq (kids.list.take k))),(1000,.var 28 [.own 900 0 k])]) (fun _ _=>False) (by rfl) (by rfl) (by rfl) (J3i nm kd s g e kids hv) (by simp only [go_sem,simprocAttr] <;> rfl) (by first | rfl | simp [Cg]) sm ?hps (by simp only [go_sem,simprocAttr] <;> rfl) (by simp only [go_sem,simprocAttr] <;> rfl) (by simp only [go_sem,simprocAttr] <;> rfl) ?h0 ?hkI ?hkS ?hSn ?round ?done ?stop)
 case hps=>exact fun x hx=>Jvc hx
 case h0=>rfl
 case hkI=>rintro k R rfl;split <;> simp [Hg,findKey]
 case hkS=>exact fun _ _ h=>h.elim
 case hSn=>exact fun _ h=>h
 case stop=>exact fun _ _ h=>h.elim
 case round =>
  rintro k x R l hx rfl;obtain ⟨p,hp,rfl⟩:=Jvu hx;by_cases hk:k=0
  ·subst hk;rw [if_pos rfl];simp only [go_sem,simprocAttr];(refine lws ?_;simp only [go_sem,simprocAttr]);refine ⟨by simp,_,rfl,?_⟩;rw [Juk hp];exact (Jqy (by simp only [Ar]) (by simp (disch:=omega) [Az,A3,Aw,Am,Af,Ai,Au,Aa]) (by simp [Ay]))
  ·rw [if_neg hk];have hkl:=(List.getElem?_eq_some_iff.1 hp).1;rw [Jqx] at hkl;have hll:=Jqz kids;simp only [go_sem,simprocAttr];(refine lws ?_;simp only [go_sem,simprocAttr]);refine ⟨by simp,by rw [Jqv,List.length_take,Jqx];omega,by omega,by omega,_,rfl,?_⟩;rw [Juk hp];exact (Jqy (by simp only [Ar]) (by simp (disch:=omega) [Az,A3,Aw,Am,Af,Ai,Au,Aa]) (by simp [Ay]))
 case done =>
  rintro R rfl;rw [Jt2];have hll:=Jqx kids;have hle:=Jqz kids;by_cases hk:kids.len=0
  ·rw [if_pos hk];have hnil:kids.list=[]:=List.eq_nil_of_length_eq_zero omg;rw [hnil];simp only [go_sem,simprocAttr];refine ⟨⟨Ba 15 [(3,.ptr 3 0 0)],[(3,.var 28 [.p (.sl [])])]⟩,Jqe,?_⟩;simp only [go_sem,simprocAttr];rfl
  ·rw [if_neg hk];have htk:kids.list.take kids.len=kids.list:=List.take_of_length_le omg;rw [htk];have hpl:(kids.len≤(Jqq kids.list).length)=True:=eq_true (by rw [Jqv];omega);have hpt:(Jqq kids.list).take kids.len=Jqq kids.list:=List.take_of_length_le (by rw [Jqv];omega);simp only [go_sem,simprocAttr];refine ⟨_,St.Le.refl _,?_⟩;simp only [go_sem,simprocAttr,hpl,hpt]
theorem Jxa (v:List YRow) (i:Nat) (nm:List UInt8) (t:RT) (rest:List YRow) (hv:v.length≤1000000) (h:v.drop i=t.enc nm ++ rest):Det cx 52 [.p (.sl (rowL v)),.p (.int .i64 i)] [] (.p (.int .i64 (i+(t.enc nm).length:Nat))) []:=by
 (refine bgo Tryz.func52 ?_;simp only [go_sem,simprocAttr]);have hp:=Jrj t nm;have hb:=Jze h (fun e=>by have e2:(t.enc nm ++ rest).length=0:=(by rw [e];rfl);rw [List.length_append] at e2;omega);rw [List.length_append] at hb;refine SWP.loop (fun x:Nat×Nat×RF=>⟨Ba 41 [(0,.p (.sl (rowL v))),(1,.p (.int .i64 x.1)),(5,.p (.int .i64 x.2.1))],[]⟩) (fun x=>x.2.1=x.2.2.len∧v.drop x.1=x.2.2.enc ++ rest∧x.1+x.2.2.enc.length=i+(t.enc nm).length) (fun x=>x.2.2.enc.length) (i,1,.cons nm t .nil) Jqe ⟨rfl,by simp [Jqh,Jq0,h],by simp [Jqh,Jq0]⟩ ?_;rintro ⟨j,left,F⟩ ⟨h0,h1,h2⟩;simp only at h0 h1 h2
 match F,h0,h1,h2 with
 | .nil,h0,h1,h2 =>
  rw [Jq0] at h2;simp only [RF.len] at h0;subst h0;have c0:((0:Int)<((0:Nat):Int))=False:=eq_false omg;(refine lws ?_;simp only [go_sem,simprocAttr]);simp only [List.length_nil] at h2;omega
 | .cons nm' (.mk k s g e kids) r,h0,h1,h2 =>
  rw [Js0] at h0;rw [Jqh,Jqk] at h1 h2;have hg:=Jr8 h1;rw [Jrc] at hg;simp only [List.length_cons,List.length_append] at h2;have hl1:=Jqz kids;have hl2:=Jqz r;have w0:IntKind.i64.wrap ((left:Int) - 1)=(r.len:Int):=by rw [Aa omg omg];omega
  have w1:IntKind.i64.wrap ((r.len:Int)+(kids.len:Int))=((r.len+kids.len:Nat):Int):=by rw [Aa omg omg];omega
  (refine lws ?_;simp only [go_sem,simprocAttr,wj1 (i:=j) omg,hg,w0,w1,Jqc]);(repeat' (first | (apply iteI <;> intro h)|(exfalso;omega)))
  ·exact ⟨(j+1,r.len+kids.len,kids.app r),⟨by simp only [Jrn];omega,by
    simp only [Jqp];rw [← List.drop_drop,h1];simp,by simp only [Jqp,List.length_append];omega⟩,by simp only [Jqp,Jqh,Jqk,List.length_append,List.length_cons];omega,Jqe⟩
theorem J2z (v:List YRow) (hv:v.length≤10000):Det cx 52 [.p (.sl (rowL v)),.p (.int .i64 0)] [] (.p (.int .i64 (Jsi v 0 1))) []:=by
 (refine bgo Tryz.func52 ?_;simp only [go_sem,simprocAttr]);refine SWP.loop (fun x:Nat×Nat=>⟨Ba 41 [(0,.p (.sl (rowL v))),(1,.p (.int .i64 x.1)),(5,.p (.int .i64 x.2))],[]⟩) (fun x=>x.1≤v.length∧x.2≤1+x.1 * 10000∧Jsi v x.1 x.2=Jsi v 0 1) (fun x=>v.length - x.1) (0,1) Jqe ⟨Nat.zero_le _,by simp,rfl⟩ ?_;rintro ⟨i,o⟩ ⟨h1,h2,h3⟩;simp only at h1 h2 h3;by_cases ho:o=0
 ·subst ho;rw [J23] at h3;have c0:((0:Int)<((0:Nat):Int))=False:=eq_false omg;(refine lws ?_;simp only [go_sem,simprocAttr]);rw [h3]
 ·have c0:((0:Int)<(o:Int))=True:=eq_true omg;by_cases hi:¬ i<v.length
  ·have c1:((v.length:Int)≤(i:Int))=True:=eq_true omg;rw [J4s omg omg] at h3;(refine lws ?_;simp only [go_sem,simprocAttr,Jqc,c0,c1]);rw [← h3]
  ·have hi:=Decidable.not_not.1 hi;have c1:((v.length:Int)≤(i:Int))=False:=eq_false omg;obtain ⟨n,hn⟩:∃ n,v[i]? = some n:=⟨_,List.getElem?_eq_getElem hi⟩
   have hg:=Jtb hn;by_cases hb:n.many<0∨(v.length:Int)<n.many
   ·rw [J4y hn omg hb] at h3;by_cases hb1:n.many<0
    ·have c2:(n.many<0)=True:=eq_true hb1;(refine lws ?_;simp only [go_sem,simprocAttr,Jqc,c0,c1,c2,hg]);rw [← h3]
    ·have c2:(n.many<0)=False:=eq_false hb1;have c3:((v.length:Int)<n.many)=True:=eq_true omg;(refine lws ?_;simp only [go_sem,simprocAttr,Jqc,c0,c1,c2,c3,hg]);rw [← h3]
   ·have c2:(n.many<0)=False:=eq_false omg;have c3:((v.length:Int)<n.many)=False:=eq_false omg;obtain ⟨o',rfl⟩:∃ o',o=o'+1:=⟨o - 1,by omega⟩
    rw [J2j hn hb] at h3;have w1:IntKind.i64.wrap (((o'+1:Nat):Int) - 1)=(o':Int):=by rw [Aa omg omg];omega
    have w2:IntKind.i64.wrap ((o':Int)+n.many)=((o'+n.many.toNat:Nat):Int):=by rw [Aa omg omg];omega
    have w3:=wj1 (i:=i) omg;(refine lws ?_;simp only [go_sem,simprocAttr,Jqc,c0,c1,c2,c3,hg,w1,w2,w3]);exact ⟨(i+1,o'+n.many.toNat),⟨by simp only;omega,by simp only;omega,h3⟩,by simp only;omega,Jqe⟩
theorem Jt9 (nm:List UInt8) (kd:Int) (s:List UInt8) (g:Int) (e:Node) (kids:RF) (hv:kids.enc.length≤999999):Det cx 20 [.p (.sl (rowL ((RT.mk kd s g e kids).enc nm)))] [] (.p (.sl (Jqq kids.list))) []:=by
 have hl:=Jqz kids;have hkl:=Jqx kids;generalize hvv:(RT.mk kd s g e kids).enc nm=v;have h0:v.drop 0=⟨kd,kids.len,nm,s,g,e⟩ :: kids.enc:=by rw [← hvv,Jqk];rfl
 have hg0:=Jr8 h0;rw [Jrc] at hg0;have hvl:v.length=kids.enc.length+1:=by rw [← hvv,Jqk];rfl
 (refine bgo Tryz.func20 ?_;simp only [go_sem,simprocAttr]);refine Jsr (B1 [(9,37)] _ sm) ?_;simp only [go_sem,simprocAttr];refine SWP.loop (fun x:Nat×Nat×RF=>⟨Ba 40 [(0,.p (.sl (rowL v))),(3,.own 37 0 x.1),(4,.p (.int .i64 x.2.1)),(5,.p (.int .i64 x.1))],[(37,.row 23 1 (Jqq (kids.list.take x.1)))]⟩) (fun x=>x.1+x.2.2.len=kids.len∧v.drop x.2.1=x.2.2.enc∧x.2.1+x.2.2.enc.length=v.length∧kids.list.drop x.1=x.2.2.list) (fun x=>x.2.2.enc.length) (0,1,kids) Jqe ⟨by simp,by rw [← hvv,Jqk];rfl,by simp only;omega,rfl⟩ ?_;rintro ⟨k,j,F⟩ ⟨h1,h2,h3,h4⟩;simp only at h1 h2 h3 h4 ⊢
 match F,h1,h2,h3,h4 with
 | .nil,h1,h2,h3,h4 =>
  simp only [RF.len] at h1;have hkk:k=kids.len:=by omega
  subst hkk;have c1:((kids.len:Int)<(kids.len:Int))=False:=eq_false omg;have hpl:(kids.len≤(Jqq (kids.list.take kids.len)).length)=True:=eq_true (by rw [Jqv,List.length_take];omega);have htk:(Jqq (kids.list.take kids.len)).take kids.len=Jqq kids.list:=by
   rw [List.take_of_length_le (by rw [Jqv,List.length_take];omega),List.take_of_length_le omg]
  (refine lws ?_;simp only [go_sem,simprocAttr,hg0,hpl,htk,c1])
  skip
 | .cons nm' (.mk k' s' g' e' kids') r,h1,h2,h3,h4 =>
  rw [Js0] at h1;rw [Jqh] at h2 h3;rw [List.length_append] at h3;have hkk:kids.list[k]? = some (nm',.mk k' s' g' e' kids'):=by
   have:=congrArg (·[0]?) h4;simpa [RF.list] using this
  have hpk:=Juk hkk;have c1:((k:Int)<(kids.len:Int))=True:=eq_true omg;rw [Jqk,Jsq,Jrc] at hpk;have hpl:(Jqq (kids.list.take k)).length=k:=by rw [Jqv,List.length_take];omega
  have hs:=Jzg h2;have hel:((RT.mk k' s' g' e' kids').enc nm').length=kids'.enc.length+1:=by rw [Jqk];rfl
  have hs':((rowL v).drop j).take (j+((RT.mk k' s' g' e' kids').enc nm').length - j)=[.int .i64 k',.int .i64 kids'.len,.str nm',.str s',.int .i64 g',.int .i64 e'.kind,.int .i64 e'.many,.str e'.name,.str e'.s,.bool e'.neg,.int .i64 e'.e] :: rowL kids'.enc:=by
   rw [Nat.add_sub_cancel_left,hs,Jqk,Jsq,Jrc]
  have h6:∀ q∈[.int .i64 k',.int .i64 kids'.len,.str nm',.str s',.int .i64 g',.int .i64 e'.kind,.int .i64 e'.many,.str e'.name,.str e'.s,.bool e'.neg,.int .i64 e'.e] :: rowL kids'.enc,q.length=11:=fun q hq=>Jt5 ((RT.mk k' s' g' e' kids').enc nm') q (by rw [Jqk];exact hq)
  have htk:(rowL kids'.enc).take kids'.enc.length=rowL kids'.enc:=List.take_of_length_le sm;(refine lws ?_;simp only [go_sem,simprocAttr,hg0,c1,wj1 (i:=k) omg]);(repeat' (first | (refine And.intro (Jt5 _) ?_)|(refine Jqd ?_)|((refine Jqa (Jxa v j nm' (.mk k' s' g' e' kids') r.enc omg h2) ?_);simp only [go_sem,simprocAttr,wj1 (i:=k) omg,hs',htk,hpl,Jqc,Nat.le_refl]) | fail));refine ⟨by simp,by omega,by omega,(k+1,j+((RT.mk k' s' g' e' kids').enc nm').length,r),⟨by simp only;omega,by simp only;rw [← List.drop_drop,h2,List.drop_left],by simp only;omega,by simp only;rw [← List.drop_drop,h4];rfl⟩,by have:=Jrj (.mk k' s' g' e' kids') nm';simp only [Jqh,List.length_append];omega,?_⟩;simp only;rw [hpk];exact Jqe
theorem J5r (nm:List UInt8) (kd:Int) (s:List UInt8) (g:Int) (e:Node) (kids:RF) (hv:kids.enc.length≤999999):Det cx 97 [.p (.sl (rowL ((RT.mk kd s g e kids).enc nm)))] [] (.p (.sl (Jr9 kids.list))) []:=by
 have hl:=Jqz kids;have hkl:=Jqx kids;generalize hvv:(RT.mk kd s g e kids).enc nm=v;have h0:v.drop 0=⟨kd,kids.len,nm,s,g,e⟩ :: kids.enc:=by rw [← hvv,Jqk];rfl
 have hg0:=Jr8 h0;rw [Jrc] at hg0;have hvl:v.length=kids.enc.length+1:=by rw [← hvv,Jqk];rfl
 (refine bgo Tryz.func97 ?_;simp only [go_sem,simprocAttr]);refine Jsr (B1 [(6,22)] _ sm) ?_;simp only [go_sem,simprocAttr];refine SWP.loop (fun x:Nat×Nat×RF=>⟨Ba 27 [(0,.p (.sl (rowL v))),(3,.own 22 0 x.1),(4,.p (.int .i64 x.2.1)),(5,.p (.int .i64 x.1))],[(22,.row 9 1 (Jr9 (kids.list.take x.1)))]⟩) (fun x=>x.1+x.2.2.len=kids.len∧v.drop x.2.1=x.2.2.enc∧x.2.1+x.2.2.enc.length=v.length∧kids.list.drop x.1=x.2.2.list) (fun x=>x.2.2.enc.length) (0,1,kids) Jqe ⟨by simp,by rw [← hvv,Jqk];rfl,by simp only;omega,rfl⟩ ?_;rintro ⟨k,j,F⟩ ⟨h1,h2,h3,h4⟩;simp only at h1 h2 h3 h4 ⊢
 match F,h1,h2,h3,h4 with
 | .nil,h1,h2,h3,h4 =>
  simp only [RF.len] at h1;have hkk:k=kids.len:=by omega
  subst hkk;have hpl:(kids.len≤(Jr9 (kids.list.take kids.len)).length)=True:=eq_true (by rw [Ju9,List.length_take];omega);have htk:(Jr9 (kids.list.take kids.len)).take kids.len=Jr9 kids.list:=by
   rw [List.take_of_length_le (by rw [Ju9,List.length_take];omega),List.take_of_length_le omg]
  have c1:((kids.len:Int)<(kids.len:Int))=False:=eq_false omg;(refine lws ?_;simp only [go_sem,simprocAttr,hg0,hpl,htk,c1])
  skip
 | .cons nm' t' r,h1,h2,h3,h4 =>
  rw [Js0] at h1;rw [Jqh] at h2 h3;rw [List.length_append] at h3;have hkk:kids.list[k]? = some (nm',t'):=by
   have:=congrArg (·[0]?) h4;simpa [RF.list] using this
  have hpk:=J08 hkk;have hpl:(Jr9 (kids.list.take k)).length=k:=by rw [Ju9,List.length_take];omega
  obtain ⟨k',n',s',g',e',hga⟩:=Jv4 (v:=v) (j:=j) (nm:=nm') (t:=t') (b:=r.enc) h2;have c1:((k:Int)<(kids.len:Int))=True:=eq_true omg;(refine lws ?_;simp only [go_sem,simprocAttr,hg0,wj1 (i:=k) omg,hga,hpl,c1]);refine ⟨by simp,by omega,by omega,?_⟩;(repeat' (first | ((refine Jqa (Jxa v j nm' t' r.enc omg h2) ?_);simp only [go_sem,simprocAttr,wj1 (i:=k) omg]) | fail));refine ⟨(k+1,j+(t'.enc nm').length,r),⟨by simp only;omega,by simp only;rw [← List.drop_drop,h2,List.drop_left],by simp only;omega,by simp only;rw [← List.drop_drop,h4];rfl⟩,by have:=Jrj t' nm';simp only [Jqh,List.length_append];omega,?_⟩;simp only;rw [hpk];exact Jqe
end Go.LX
