/- Values that are right, the document's answer: rising names, the same. -/
import Derived.Test.YtgfggbndbceppaaGreatDoorLxR
import Derived.Test.YtgfggbndbceppaaGreatDoorLxN
import Derived.Test.YtgfggbndbceppaaGreatDoorLxQ
import Derived.Test.YtgfggbndbceppaaGreatDoorLxL
import Derived.OpenShut
import Derived.WideKeyArgs
import Derived.Below
import Derived.ProofKit
import Derived.WalkKit
import Derived.ChangeSame
import Derived.Test.YtgfggbndbceppaaGreatDoorCards
import Derived.Test.YtgfggbndbceppaaGreatDoorTie
import Derived.Deep.DeepHandedRow
import Derived.Deep.DeepWitnessRowRef
import Derived.Deep.Slices
import Derived.Lib.LaidIn
import Derived.Lib.LaidU8T
import Derived.Lib.LaidTab
import Derived.SizedLaws
import Derived.Shelf.Strings.FuncGrows
import Derived.Lib.TrimUEq
import Derived.Lib.TrimAscii
set_option linter.unusedSimpArgs false
set_option linter.unusedVariables false
set_option linter.unusedSectionVars false
set_option linter.unnecessarySimpa false
set_option maxRecDepth 100000
set_option maxHeartbeats 2000000
namespace Go.LX
open Go Go.RowKit Go.Proofs
attribute [local irreducible] Al SWP Bi
theorem P8 {v:List Node} {i:Nat} {n:Node} (h:v[i]? = some n):(valL v)[i]? = some [.int .i64 n.kind,.int .i64 n.many,.str n.name,.str n.s,.bool n.neg,.int .i64 n.e]:=by
 simp [valL,h,Node.cells]
def Uw (x y:Node):Prop:=x.kind=y.kind∧x.many=y.many∧x.name=y.name∧x.s=y.s∧x.neg=y.neg∧x.e=y.e
theorem Qo {x y:Node}:Uw x y ↔ x=y:=by
 unfold Uw;constructor
 ·rintro ⟨h1,h2,h3,h4,h5,h6⟩;cases x;cases y;simp_all
 ·rintro rfl;exact ⟨rfl,rfl,rfl,rfl,rfl,rfl⟩
instance (x y:Node):Decidable (Uw x y):=inferInstanceAs (Decidable (_∧_))
instance:DecidableEq Node:=fun x y=>decidable_of_iff _ (Qo (x:=x) (y:=y))
theorem Jma {x y:Node}:(x.kind == y.kind && (x.many == y.many && (x.name == y.name && (x.s == y.s && (x.neg == y.neg && x.e == y.e)))))=decide (x=y):=by
 rw [Bool.eq_iff_iff,decide_eq_true_eq,← Qo];simp [Uw]
theorem Z3 (v:List Node) (i:Nat) (nm:List UInt8) (k:Int) (s:List UInt8) (g:Bool) (e:Int) (kids:Forest) (rest:List Node) (hv:v.length≤1000000) (h:v.drop i=(Tree.mk k s g e kids).enc nm ++ rest) (hs:∀ n∈v,n.name.length≤1000000):Det cx 132 [.p (.sl (valL v)),.p (.int .i64 i)] [] (.p (.bool (@decide (Eh k kids.list) (Classical.propDecidable _)))) []:=by
 have hll:=Jr2 kids;rw [A6] at h;have hg0:=D5 h;rw [C9] at hg0;have hb:=L9 h sm;simp only [List.cons_append,List.length_cons,List.length_append] at hb;have w0:=wj1 (i:=i) omg;(refine bgo Tryz.func132 ?_;simp only [go_sem,simprocAttr,w0]);refine SWP.loop (fun x:Nat×Nat×Forest=>⟨Ba 75 [(0,.p (.sl (valL v))),(1,.p (.int .i64 i)),(5,.p (.int .i64 x.2.1)),(6,.p (.int .i64 x.1))],[]⟩) (fun x=>x.1+x.2.2.len=kids.len∧v.drop x.2.1=x.2.2.enc ++ rest∧x.2.1+x.2.2.enc.length=i+1+kids.enc.length∧(Eh k kids.list ↔ Eh k x.2.2.list)) (fun x=>x.2.2.enc.length) (0,i+1,kids) Jqe ⟨by simp,by simp only;rw [← List.drop_drop,h];rfl,by simp only,Iff.rfl⟩ ?_;rintro ⟨j,a,F⟩ ⟨h1,h2,h3,h4⟩;simp only at h1 h2 h3 h4
 match F,h1,h2,h3,h4 with
 | .nil,h1,h2,h3,h4 =>
  simp only [Forest.len] at h1;have c1:((j:Int)<(kids.len:Int))=False:=eq_false omg;have hK:=h4.2 (Sb k);have hga:=c1;have w1:=c1;have c7:=c1;have hgb:=c1;(refine lws ?_;simp only [go_sem,simprocAttr,hg0,c1]);exact (@decide_eq_true _ (Classical.propDecidable _) hK).symm
 | .cons nm' t r,h1,h2,h3,h4 =>
  rw [F2] at h1;rw [A0] at h2 h3;have hp:=Et t nm';simp only [List.length_append] at h3;obtain ⟨k',n',s',g',e',hga⟩:∃ k' n' s' g' e',(valL v)[a]? = some [.int .i64 k',.int .i64 n',.str nm',.str s',.bool g',.int .i64 e']:=Mi (t:=t) (b:=r.enc ++ rest) (by rw [h2,List.append_assoc]);have c1:((j:Int)<(kids.len:Int))=True:=eq_true omg;rw [Forest.list,Jaa] at h4;simp only at h4;have w1:=wj1 (i:=j) omg;have hnl:nm'.length≤1000000:=by
   have:v[a]? = some ⟨k',n',nm',s',g',e'⟩:=by
    cases hva:v[a]? with
    | none=>simp [valL,hva] at hga
    | some n =>
     have:=P8 hva;rw [hga] at this;simp only [Option.some.injEq,List.cons.injEq,PV.int.injEq,PV.str.injEq,PV.bool.injEq,true_and,and_true] at this;obtain ⟨h1,h2,h3,h4,h5,h6⟩:=this;congr 1;cases n;simp_all
   exact hs _ (List.mem_of_getElem? this)
  have hNx:=Cs v a nm' t (r.enc ++ rest) hv (by rw [h2,List.append_assoc]);have hno:((k=5→nm'=[])∧valid nm'=true∧(k=6→∀ q,r.list.head? = some q→Op.bytesLess nm' q.1=true)∧Eh k r.list→False)→(false = @decide (Eh k kids.list) (Classical.propDecidable _)):=fun h=>((@decide_eq_false_iff_not _ (Classical.propDecidable _)).2 fun hk=>h (h4.1 hk)).symm
  have hd:v.drop (a+(t.enc nm').length)=r.enc ++ rest:=by rw [← List.drop_drop,h2,List.append_assoc,List.drop_left]
  match r,h1,h2,h3,h4,hNx,hno,hd with
  | .nil,h1,h2,h3,h4,hNx,hno,hd =>
   simp only [Forest.len] at h1;have c7:(((j+1:Nat):Int)<(kids.len:Int))=False:=eq_false omg;have hgb:=c1;(refine lws ?_;simp only [go_sem,simprocAttr,hg0,c1,hga]);(repeat' (first | (apply iteI <;> intro h)|((first | (refine Jqi ?_)|(refine Jqa (Cn nm' hnl) ?_)|(refine Jqa (hNx) ?_));simp only [go_sem,simprocAttr,hg0,w1,c7])|(exfalso;omega)))
   all_goals first
    | (
     refine hno ?_;rintro ⟨a1,a2,a3,a4⟩;have h9:=(show valid nm'=false by assumption)
     rw [a2] at h9;cases h9)
    | (
     refine hno ?_;rintro ⟨a1,a2,a3,a4⟩;clear hno hNx h4 hga hg0 hd h2 hs;simp_all)
    | (
     refine ⟨(j+1,a+(t.enc nm').length,.nil),⟨by simp only [Forest.len];omega,hd,by simp only;omega,h4.trans ⟨fun q=>q.2.2.2,fun q=>⟨?_,?_,fun _ q hq=>(by cases hq),q⟩⟩⟩,by simp only [A0,List.length_append];omega,Jqe⟩
     all_goals (clear hno hNx h4 hga hg0 hd h2 hs;simp_all))
  | .cons nm2 t2 r2,h1,h2,h3,h4,hNx,hno,hd =>
   simp only [Forest.len] at h1;have c7:(((j+1:Nat):Int)<(kids.len:Int))=True:=eq_true omg;obtain ⟨k2,n2,s2,g2,e2,hgb⟩:∃ k' n' s' g' e',(valL v)[a+(t.enc nm').length]? = some [.int .i64 k',.int .i64 n',.str nm2,.str s',.bool g',.int .i64 e']:=Mi (t:=t2) (b:=r2.enc ++ rest) (by rw [hd,A0,List.append_assoc]);(refine lws ?_;simp only [go_sem,simprocAttr,hg0,c1,hga]);(repeat' (first | (apply iteI <;> intro h)|((first | (refine Jqi ?_)|(refine Jqa (Cn nm' hnl) ?_)|(refine Jqa (hNx) ?_));simp only [go_sem,simprocAttr,hg0,hga,w1,c7,hgb])|(exfalso;omega)))
   all_goals first
    | (
     refine hno ?_;rintro ⟨a1,a2,a3,a4⟩;have h9:=(show valid nm'=false by assumption)
     rw [a2] at h9;cases h9)
    | (
     refine hno ?_;rintro ⟨a1,a2,a3,a4⟩;have a5:=fun hk=>a3 hk (nm2,t2) rfl
     clear a3 hno hNx h4 hga hg0 hd h2 hs hgb;simp_all)
    | (
     refine ⟨(j+1,a+(t.enc nm').length,.cons nm2 t2 r2),⟨by simp only [Forest.len];omega,hd,by simp only;omega,h4.trans ⟨fun q=>q.2.2.2,fun q=>⟨?_,?_,fun hk q hq=>?_,q⟩⟩⟩,by simp only [A0,List.length_append];omega,Jqe⟩
     all_goals (clear hno hNx h4 hga hg0 hd h2 hs hgb)
     all_goals first
      | (simp_all;done)
      | (simp only [Forest.list,List.head?_cons,Option.some.injEq] at hq;subst hq;simp_all))
theorem Jda:∀ {a b c d:Forest},a.app b=c.app d→a.len=c.len→a=c∧b=d
 | .nil,b,.nil,d,h,_=>⟨rfl,h⟩
 | .nil,_,.cons _ _ _,_,_,h=>by simp [Forest.len] at h
 | .cons _ _ _,_,.nil,_,_,h=>by simp [Forest.len] at h
 | .cons nm t a,b,.cons nm' t' c,d,h,hl=>by
  rw [Forest.app,Forest.app] at h;injection h with h1 h2 h3
  obtain ⟨rfl,rfl⟩:=Jda (a:=a) (b:=b) (c:=c) (d:=d) h3 (by simpa [Forest.len] using hl);exact ⟨by rw [h1,h2],rfl⟩
theorem W5:∀ (n:Nat) {F G:Forest},F.enc.length≤n→F.len=G.len→F.enc=G.enc→F=G
 | _,.nil,.nil,_,_,_=>rfl
 | _,.nil,.cons _ _ _,_,h,_=>by simp [Forest.len] at h
 | _,.cons _ _ _,.nil,_,h,_=>by simp [Forest.len] at h
 | 0,.cons nm t r,.cons _ _ _,h,_,_=>by
  have:=Et t nm;rw [A0,List.length_append] at h;omega
 | n+1,.cons nm (.mk k s g e kids) r,.cons nm' (.mk k' s' g' e' kids') r',h,hl,he=>by
  rw [A0,A6,List.length_append,List.length_cons] at h;rw [A0,A0,A6,A6,List.cons_append,List.cons_append] at he;injection he with h1 h2
  injection h1 with g1 g2 g3 g4 g5 g6
  rw [← Jqs,← Jqs] at h2;simp only [Forest.len] at hl;have hk:kids.len=kids'.len:=by omega
  have:=W5 n (F:=kids.app r) (G:=kids'.app r') (by rw [Jqs,List.length_append];omega) (by rw [Jrl,Jrl];omega) h2;obtain ⟨rfl,rfl⟩:=Jda this hk;rw [g1,g3,g4,g5,g6]
theorem Jmz {t u:Tree} {a b:List UInt8} (h:t.enc a=u.enc b):a=b∧t=u:=by
 have:=W5 (Forest.cons a t .nil).enc.length (F:=.cons a t .nil) (G:=.cons b u .nil) (Nat.le_refl _) rfl (by rw [A0,A0,h]);injection this with h1 h2 _
 exact ⟨h1,h2⟩
theorem Jf9 {t:Tree}:R0 (t.enc []) ↔ okT t:=by
 constructor
 ·rintro ⟨u,hu,h⟩;obtain ⟨_,rfl⟩:=Jmz h;exact hu
 ·exact fun h=>⟨t,h,rfl⟩
theorem Zg {v:List Node} (h:R0 v):nxtR v 0 1=v.length:=by
 obtain ⟨t,_,rfl⟩:=h;have:=Jcx.2 ⟨[],t,rfl⟩;unfold nxtR;rw [List.drop_zero,this];simp
theorem Jf6 {v:List Node} (h:nxtR v 0 1=v.length):∃ nm t,v=Tree.enc nm t:=by
 refine Jcx.1 ?_;unfold nxtR at h;rw [List.drop_zero] at h;cases hn:nxt v.length v 1 with
 | none=>rw [hn] at h;simp at h
 | some k=>rw [hn] at h;simp at h;rw [show k=v.length by omega]
structure NodeFit (n:Node):Prop where
 s:n.s.length≤1000000
 name:n.name.length≤1000000
 e0:-9223372036854775808≤n.e
 e1:n.e≤9223372036854775807
theorem I8 {v:List Node} (h:¬ R0 v):false=Jw v:=by
 cases hb:Jw v with
 | false=>rfl
 | true=>exact absurd (Iq.1 hb) h
theorem Jp (v:List Node) (hv:v.length≤10000) (hf:∀ n∈v,NodeFit n):Det cx 102 [.p (.sl (valL v))] [] (.p (.bool (Jw v))) []:=by
 cases v with
 | nil =>
  have hb:false=Jw []:=I8 (by
   rintro ⟨t,_,h⟩;have:=congrArg List.length h;have h1:=Et t [];simp at this;omega)
  have hg0:True:=trivial;have c0:=hg0;have c1:=hg0;have c2:=hg0;have c3:=hg0;(refine bgo Tryz.func102 ?_;simp only [go_sem,simprocAttr,A7]);exact hb
 | cons n r =>
  have hg0:=U5 (v:=n :: r) (i:=0) (n:=n) rfl;have c0:(((n :: r).length:Int)=0)=False:=eq_false (by simp;omega);have c1:((0:Int)<((n :: r).length:Int))=True:=eq_true sm;have hN:=Uv (n :: r) hv;generalize hvv:n :: r=v at *
  by_cases hnm:n.name=[]
  ·by_cases hnx:nxtR v 0 1=v.length
   ·obtain ⟨nm,t,ht⟩:=Jf6 hnx;have hnm0:nm=[]:=by
     cases t with
     | mk k s g e kids =>
      rw [A6,← hvv] at ht;have:=(List.cons.inj ht).1;rw [this] at hnm;exact hnm
    subst hnm0;have c2:(n.name=[])=True:=eq_true hnm;have c3:(nxtR v 0 1=(v.length:Int))=True:=eq_true hnx;(refine bgo Tryz.func102 ?_;simp only [go_sem,simprocAttr,A7,hg0,c0,c2]);(repeat' (first | ((refine Jqa (hN) ?_);simp only [go_sem,simprocAttr,A7,c3]) | fail));have hB:∀ b:Bool,(b=true ↔ okT t)→b=Jw v:=by
     intro b hb;rw [Bool.eq_iff_iff,hb,Iq,ht,Jf9]
    have hend:∀ {i:Nat} {F:Forest},i+F.enc.length=v.length→True:=fun _=>trivial
    refine SWP.loop (fun x:Nat×Forest=>⟨Ba 39 [(0,.p (.sl (valL v))),(3,.p (.int .i64 x.1))],[]⟩) (fun x=>v.drop x.1=x.2.enc∧x.1+x.2.enc.length=v.length∧(okT t ↔ okF x.2)) (fun x=>v.length - x.1) (0,.cons [] t .nil) Jqe ⟨by rw [A0,Bl,List.append_nil,List.drop_zero,ht],by rw [A0,Bl,List.append_nil,ht];simp,by rw [Fs];exact ⟨fun h=>⟨h,I6⟩,fun h=>h.1⟩⟩ ?_;rintro ⟨i,F⟩ ⟨h1,h2,h3⟩;simp only at h1 h2 h3
    match F,h1,h2,h3 with
    | .nil,h1,h2,h3 =>
     rw [Bl] at h2;have c4:((i:Int)<(v.length:Int))=False:=eq_false (by simp at h2;omega);have hga:=c4;have w1:=c4;(refine lws ?_;simp only [go_sem,simprocAttr,A7,c4]);exact hB true (by rw [h3];simp [I6])
    | .cons nm' (.mk k s g e kids) r,h1,h2,h3 =>
     rw [A0,A6] at h1 h2;simp only [List.length_append,List.length_cons] at h2;have c4:((i:Int)<(v.length:Int))=True:=eq_true omg;have hga:=D5 h1;rw [C9] at hga;have w1:=wj1 (i:=i) omg;rw [Jjp] at h3;have hmem:(⟨k,kids.len,nm',s,g,e⟩:Node)∈v:=by
      have:(⟨k,kids.len,nm',s,g,e⟩:Node)∈v.drop i:=by rw [h1];simp
      exact List.mem_of_mem_drop this
     have hfn:=hf _ hmem;have hpl:=Ja1 k kids.len nm' s g e hfn.s hfn.e0 hfn.e1;have hri:=Z3 v i nm' k s g e kids r.enc omg (by rw [h1,A6]) fun n hn=>(hf n hn).name
     have hcont:(okT t ↔ okF (kids.app r))→∃ y:Nat×Forest,(v.drop y.1=y.2.enc∧y.1+y.2.enc.length=v.length∧(okT t ↔ okF y.2))∧v.length - y.1<v.length - i∧y=(i+1,kids.app r):=fun h =>
      ⟨(i+1,kids.app r),⟨by simp only;rw [← List.drop_drop,h1,Jqs];rfl,by simp only;rw [Jqs,List.length_append];omega,h⟩,by simp only;omega,rfl⟩
     by_cases hn1:G3 k s g e kids.len
     ·rw [decide_eq_true hn1] at hpl;by_cases hk1:Eh k kids.list
      ·rw [@decide_eq_true _ (Classical.propDecidable _) hk1] at hri;(refine lws ?_;simp only [go_sem,simprocAttr,A7,c4,hga]);(repeat' (first | ((first | (refine Jqa (hpl) ?_)|(refine Jqa (hri) ?_));simp only [go_sem,simprocAttr,w1]) | fail));obtain ⟨y,p1,p2,rfl⟩:=hcont (h3.trans ⟨fun h=>h.2.2,fun h=>⟨hn1,hk1,h⟩⟩);exact ⟨_,p1,p2,Jqe⟩
      ·rw [@decide_eq_false _ (Classical.propDecidable _) hk1] at hri;(refine lws ?_;simp only [go_sem,simprocAttr,A7,c4,hga]);(repeat' (first | ((first | (refine Jqa (hpl) ?_)|(refine Jqa (hri) ?_));simp only [go_sem,simprocAttr]) | fail));exact hB false (by rw [h3];simp [hk1])
     ·rw [decide_eq_false hn1] at hpl;(refine lws ?_;simp only [go_sem,simprocAttr,A7,c4,hga]);(repeat' (first | ((refine Jqa (hpl) ?_);simp only [go_sem,simprocAttr]) | fail));exact hB false (by rw [h3];simp [hn1])
   ·have c2:(n.name=[])=True:=eq_true hnm;have c3:(nxtR v 0 1=(v.length:Int))=False:=eq_false hnx;have hb:=I8 (v:=v) fun h=>hnx (Zg h)
    have c4:=hg0;have hga:=hg0;have w1:=hg0;(refine bgo Tryz.func102 ?_;simp only [go_sem,simprocAttr,A7,hg0,c0,c2]);(repeat' (first | ((refine Jqa (hN) ?_);simp only [go_sem,simprocAttr,A7,c3]) | fail));exact hb
  ·have c2:(n.name=[])=False:=eq_false hnm;have c3:=c2;have c4:=hg0;have hga:=hg0;have w1:=hg0;have hb:=I8 (v:=v) (by
    rintro ⟨t,_,h⟩;cases t with
    | mk k s g e kids =>
     rw [A6,← hvv] at h;have:=(List.cons.inj h).1;rw [this] at hnm;exact hnm rfl)
   (refine bgo Tryz.func102 ?_;simp only [go_sem,simprocAttr,A7,hg0,c0,c2]);exact hb
structure EFit (n:Node):Prop where
 s:n.s.length≤9223372036854775807
 name:n.name.length≤9223372036854775807
 e0:-9223372036854775808≤n.e
 e1:n.e≤9223372036854775807
def tOne:Tree:=.mk 2 [] false 0 .nil
def tTwo:Tree:=.mk 5 [] false 0 (.cons [] tOne (.cons [] tOne .nil))
def tObj:Tree:=.mk 6 [] false 0 (.cons [97] tTwo .nil)
def tSet:Tree:=.mk 6 [] false 0 (.cons [97] tOne .nil)
def ndL (k m:Int) (nm:List UInt8):List PV:=[.int .i64 k,.int .i64 m,.str nm,.str [],.bool false,.int .i64 0]
def pA:List Step:=[⟨false,[97],0⟩,⟨true,[],0⟩,⟨false,[98,32,99],0⟩]
end Go.LX
namespace Go.LX
open Go Go.Proofs Go.RowKit Go.ChangeShapes Go.WideShapes Go.ChangeAt
section
variable {H:Type} {enc:TypeId×Value→H} {P:Program}
theorem Kz (hl:laidOutB P=true) {W W':World} {sp:Nat→Bool}:∀ (ts:List TypeId) (vs:List Value) (ds:List (DataW H)) (ps:List MemPlace),(∀ t∈ts,P.readableRec t=true∧t<P.types.size) →
  DataW.TrodAll enc P W 0 (fun _=>true) true ts vs ds ps→(∀ p∈ps,W.sameAt W' p)→(∀ p∈ps,sp p.block=true)→DataW.TrodAll enc P W' 0 sp true ts vs ds ps
 | [],vs,ds,ps,_,h,_,_=>by
  obtain ⟨rfl,rfl,rfl⟩:=trodAll_nil h;exact trodAll_mk0
 | t :: ts,vs,ds,ps,hr,h,hs,hb=>by
  obtain ⟨v,vs',d,ds',p,q,rfl,rfl,rfl,h0,h1⟩:=trodAll_cons h;have ht:=hr t List.mem_cons_self;exact trodAll_cons_mk (WideElems.Trod_stays hl ht.1 ht.2 h0 (fun x hx=>hs x (List.mem_append_left _ hx)) fun x hx=>hb x (List.mem_append_left _ hx))
   (Kz hl ts vs' ds' q (fun u hu=>hr u (List.mem_cons_of_mem _ hu)) h1 (fun x hx=>hs x (List.mem_append_right _ hx)) fun x hx=>hb x (List.mem_append_right _ hx))
theorem M7 (hl:laidOutB P=true) {f:Func} {s:ChangeSpec} {b:TypeId} {W W':World} {args:Array Value} {ds gs:List (DataW H)} {before:List MemPlace} (hv:s.vars=[])
  (hrd:∀ t∈f.params.toList,P.readableRec t=true∧t<P.types.size) (hrt:f.resultTypes = #[b]) (hb:P.underlying b=some .bool)
  (hW:DataW.Whole enc P f.params.toList s.vars false W args.toList ds gs before) (hfn:s.fn H ds = { results:=[.lit (.bool true)],args:=ds }) (hbel:Below W.heap.size W W') :
  s.post enc P f false true false false W args (.bool true) W':=by
 have hW':=hW;have hlt:∀ p∈before,p.block<W.heap.size:=fun p hp=>hW'.lt p hp
 obtain ⟨p,q,hA,hV,rfl,hfz,hnd⟩:=hW;rw [hv] at hV;obtain ⟨rfl,rfl⟩:=trodVars_none hV;simp only [List.append_nil] at hlt;refine ⟨ds,[],p ++ [],[],p,[],hW',?_,?_,?_,hbel.frame _,fun h=>by cases h⟩
 ·rw [List.append_nil,hfn,hrt];exact trodAll_mk1 (shut_bool hb _)
 ·rw [List.append_nil,hfn];exact Kz hl _ _ _ _ hrd hA (fun x hx=>hbel.same (hlt x hx)) fun x hx=>by simpa using hlt x hx
 ·rw [List.append_nil,hfn,hv];rfl
end
end Go.LX
namespace Go.LX
open Go Go.Proofs Go.RowKit Go.ChangeShapes Go.WideShapes Go.ChangeAt Go.Lib
open Go.Proofs.YtgfggbndbceppaaGreatDoor
theorem Mc {P:Program} {w:World} {x:String×DataW Unit} {l:List (String×DataW Unit)} (h:laidMet P (x :: l) w):laidMet P l w:=by
 obtain ⟨ps,h1,h2,h3⟩:=h;obtain ⟨n,d⟩:=x;obtain ⟨g,t,cs,fuel,p,q,_,_,_,_,h5,rfl⟩:=h1;exact ⟨q,h5,(List.nodup_append.1 h2).2.1,fun b off hb=>h3 b off (List.mem_append_right _ hb)⟩
theorem Jc3 (x:ByteArray):(⟨⟨x.data.toList⟩⟩:ByteArray)=x:=by rcases x with ⟨⟨l⟩⟩;rfl
theorem T8 (s:ByteArray):s.data.toList.length=s.size:=by simp
theorem Jci {P:Program} {w:World} {sp:Nat→Bool} {t:TypeId} {cs:List Value} {nm:String} {d:DataW Unit} {p:List MemPlace} {u:TypeDesc} (ht:P.underlying t=some u) (hu:∃ m,u=.interface m) :
  ∀ {fuel:Nat},DataW.trod (fun _=>()) P w 0 sp false fuel t cs=some (.iface nm d,p)→∃ te pe,cs=[.iface te pe]
 | 0,h=>by simp [DataW.trod] at h
 | fuel+1,h=>by
  obtain ⟨m,rfl⟩:=hu;rcases cs with _ | ⟨c,_ | ⟨c2,cs⟩⟩
  ·simp [DataW.trod,ht] at h
  ·cases c <;> first | exact ⟨_,_,rfl⟩ | (simp [DataW.trod,ht] at h;done)
  ·simp [DataW.trod,ht] at h
theorem Xq {w:World} {n:String} {nm:String} {d:DataW Unit} {g:Nat} {t:TypeId} {u:TypeDesc} (h:VarReads Tryz.prog w n (.iface nm d)) (hg:Tryz.prog.globalNamed n=some g) (ht:(Tryz.prog.globals[g]?).map (·.type)=some t) (hu:Tryz.prog.underlying t=some u) (hi:∃ m,u=.interface m):Jk8 g w:=by
 obtain ⟨g',t',cs,fuel,p,h1,h2,h3,h4⟩:=h;obtain rfl:=Option.some.inj (hg.symm.trans h1);obtain rfl:=Option.some.inj (ht.symm.trans h2);obtain ⟨te,pe,e⟩:=Jci hu hi h4;refine ⟨te,pe,?_⟩;rw [World.var?_cell hg h3 0,← Array.getElem?_toList,e];rfl
theorem gOwn:ownKnob Tryz.prog.godebug=none:=kr
theorem L2:laidOutB Tryz.prog=true:=kr
theorem gFirst:Go.Pinned.utf8First=firstData:=kr
theorem u8T:U8Types Tryz.prog Tryz_lays197_renX:=⟨by kernel_rfl,by kernel_rfl,by kernel_rfl,by kernel_rfl⟩
theorem u8X:U8Extra Tryz.prog Tryz_lays197_renX:=⟨by kernel_rfl,by kernel_rfl,by kernel_rfl,by kernel_rfl,by kernel_rfl,by kernel_rfl,by kernel_rfl⟩
def tz64:List Int:=Lib.deBruijn64tab.map fun n:Nat=>(n:Int)
def Ja (W:World) (b:Nat):Prop:=b<W.heap.size
theorem Kv {W:World} {n:String} {d:DataW Unit} {g:Nat} (h:VarReads Tryz.prog W n d) (hg:Tryz.prog.globalNamed n=some g):g<W.heap.size:=by
 obtain ⟨g',t',cs,fuel,p,h1,_,h3,_⟩:=h;obtain rfl:=Option.some.inj (hg.symm.trans h1);unfold World.var? at h3;rw [hg] at h3;simp only [Option.bind_some] at h3;rcases Nat.lt_or_ge g W.heap.size with h | h
 ·exact h
 ·rw [Array.getElem?_eq_none h] at h3;cases h3
theorem Jdp {W:World} (h:laidMetH Tryz.prog Rows.termTellsRow.laid W):QuoteG W (Ja W):=by
 have h0:laidMet Tryz.prog Rows.termTellsRow.laid W:=h;have h1:=Mc h0;have h2:=Mc h1;have r1:VarReads Tryz.prog W "unicode/utf8.first" Rows.laid_unicode_utf8_first:=laidMet.reads h0 (by simp [Rows.termTellsRow]);have r2:VarReads Tryz.prog W "unicode/utf8.acceptRanges" Rows.laid_unicode_utf8_acceptRanges:=laidMet.reads h0 (by simp [Rows.termTellsRow]);have r3:VarReads Tryz.prog W "strconv.ErrSyntax" Rows.laid_strconv_ErrSyntax:=laidMet.reads h0 (by simp [Rows.termTellsRow]);have r4:VarReads Tryz.prog W "strconv.ErrRange" Rows.laid_strconv_ErrRange:=laidMet.reads h0 (by simp [Rows.termTellsRow]);have r5:VarReads Tryz.prog W "math/bits.deBruijn64tab" Rows.laid_math_bits_deBruijn64tab:=laidMet.reads h0 (by simp [Rows.termTellsRow]);have r6:VarReads Tryz.prog W "internal/strconv.uint64pow10" Rows.laid_internal_strconv_uint64pow10:=laidMet.reads h0 (by simp [Rows.termTellsRow]);refine ⟨?_,?_,?_,?_,?_,Kv r1 kr,Kv r2 kr,Kv r3 kr,Kv r4 kr,Kv r5 kr,Kv r6 kr⟩
 ·have f1:VarReads Tryz.prog W "unicode/utf8.first" firstData:=by
   rw [← gFirst];exact laidMet.reads h0 (by simp [Rows.termTellsRow,Rows.laid_unicode_utf8_first])
  have f2:VarReads Tryz.prog W "unicode/utf8.acceptRanges" acceptData:=laidMet.reads h0 (by
   rw [show (acceptData:DataW Unit)=Rows.laid_unicode_utf8_acceptRanges by kernel_rfl];simp [Rows.termTellsRow])
  exact utf8Tabs_of_readsT u8T u8X f1 f2
 ·exact Xq r3 kr kr Tryz.underlying125 ⟨_,rfl⟩
 ·exact Xq r4 kr kr Tryz.underlying125 ⟨_,rfl⟩
 ·have ht:TabIs Tryz.prog W "math/bits.deBruijn64tab" .u8 tz64:=tabIs_of_head (g:=5) (t:=242) (e:=5) (n:=64) kr kr kr kr kr kr (k:=.u8) (zs:=tz64) h1;intro j hj;have:=ht.cell (g:=5) kr j (by simpa [tz64] using hj);rw [this];simp [tz64,List.getD_eq_getElem?_getD,hj]
 ·exact tabIs_of_head (g:=2) (t:=197) (e:=165) (n:=20) kr kr kr kr kr kr (k:=.u64) (zs:=Lib.pow10Tab) h2
def Yw (d:DataW Unit):List Value:=match d with
 | .agg l=>l.flatMap fun x=>match x with
  | .lit (.int k n)=>[Value.int k n]
  | .agg l'=>l'.flatMap fun y=>match y with
   | .lit (.int k n)=>[Value.int k n]
   | _=>[]
  | _=>[]
 | _=>[]
noncomputable def D9 (os:Os):World :=
 let N:=(World.settled Tryz.prog os).heap.size;let w0:=World.holding Tryz.prog os ⟨#[
  .cells #[.string ⟨#[118,97,108,117,101,32,111,117,116,32,111,102,32,114,97,110,103,101]⟩] 263,.cells #[.string ⟨#[105,110,118,97,108,105,100,32,115,121,110,116,97,120]⟩] 263],#[],[]⟩
 let put (h:Array Obj) (g:Nat) (cs:Array Value):Array Obj:=h.modify g fun
  | .cells _ t frozen=>.cells cs t frozen
  | o=>o
 let h1:=put w0.heap 4 (Yw Rows.laid_math_bits_deBruijn32tab).toArray;let h2:=put h1 5 (Yw Rows.laid_math_bits_deBruijn64tab).toArray;let h3:=put h2 2 (Yw Rows.laid_internal_strconv_uint64pow10).toArray;let h4:=put h3 1 (Yw Rows.laid_unicode_utf8_acceptRanges).toArray;let h5:=put h4 7 #[.iface 261 (.pointer (some ⟨N,0,none⟩))];let h6:=put h5 6 #[.iface 261 (.pointer (some ⟨N+1,0,none⟩))];let h7:=put h6 0 (Yw Rows.laid_unicode_utf8_first).toArray
 { w0 with heap:=h7 }
theorem Ma (os:Os) (args:Array Value):laidMet Tryz.prog Rows.termTellsRow.laid ((D9 os).forCall (fun _ _=>0) ⟨#[],args,[]⟩).memory :=
 laidMet_of_run' 8 kr kr
theorem Jt4 {P:Program} {W:World} {r:Reach} {b:Nat} {t:TypeId} {k:IntKind} {v:Value} (ht:P.underlying t=some (.int k)) (h:Cell.okWide P W r b t v):∃ n,v=.int k n∧k.has n:=by
 simp only [Cell.okWide,Cell.ok,ht] at h;cases v <;> simp_all
theorem Jxc {P:Program} {W:World} {r:Reach} {b:Nat} {t:TypeId} {v:Value} (ht:P.underlying t=some .string) (h:Cell.okWide P W r b t v):∃ s:List UInt8,v=.string ⟨⟨s⟩⟩∧s.length≤9223372036854775807:=by
 simp only [Cell.okWide,Cell.ok,ht] at h;cases v with
 | string s =>
  refine ⟨s.data.toList,by rw [Jc3],?_⟩;have h':(s.size:Int)≤IntKind.i64.max:=h;have e:IntKind.i64.max=9223372036854775807:=rfl;have e2:s.data.toList.length=s.size:=T8 s;omega
 | _=>simp at h
theorem J5g {P:Program} {W:World} {r:Reach} {b:Nat} {t:TypeId} {v:Value} (ht:P.underlying t=some .bool) (h:Cell.okWide P W r b t v):∃ x,v=.bool x:=by
 simp only [Cell.okWide,Cell.ok,ht] at h;cases v <;> simp_all
theorem trod_string {H:Type} {enc:TypeId×Value→H} {P:Program} {w:World} {base:Nat} {sp:Nat→Bool} {held:Bool} {t:TypeId} {s:List UInt8} {d:DataW H} {p:List MemPlace} (ht:P.underlying t=some .string) (h:DataW.Trod enc P w base sp held t (.string ⟨⟨s⟩⟩) d p):d=.lit (.string s):=by
 obtain ⟨fuel,h⟩:=h;cases fuel with
 | zero=>simp [DataW.trod] at h
 | succ f =>
  simp only [DataW.trod,ht,Value.cells] at h;split at h
  ·simp at h;exact h.1.symm
  ·cases h
theorem Jkw {α:Type} {Q:Nat→α→Prop}:∀ n,(∀ i,i<n→∃ x,Q i x)→∃ p:List α,p.length=n∧∀ i x,p[i]? = some x→Q i x
 | 0,_=>⟨[],rfl,fun i x h=>by simp at h⟩
 | n+1,h=>by
  obtain ⟨p,hp,hq⟩:=Jkw n fun i hi=>h i omg
  obtain ⟨x,hx⟩:=h n omg;refine ⟨p ++ [x],by simp [hp],fun i y hy=>?_⟩;rcases Nat.lt_trichotomy i n with hi | hi | hi
  ·rw [List.getElem?_append_left omg] at hy;exact hq i y hy
  ·subst hi;rw [List.getElem?_append_right omg,hp] at hy;simp at hy;subst hy;exact hx
  ·rw [List.getElem?_eq_none (by simp [hp];omega)] at hy;cases hy
theorem J8 {H:Type} {P:Program} {e:TypeId} {d:DataW H} {n:Nat}:∀ {l:List (DataW H)},d∈l→n∈d.weights P e→n∈DataW.weightsAll P e l
 | [],h,_=>by cases h
 | a :: l,h,hn=>by
  simp only [DataW.weightsAll,List.mem_append];rcases List.mem_cons.1 h with rfl | h
  ·exact .inl hn
  ·exact .inr (J8 h hn)
theorem Jka (b off k:Nat):(⟨b,off,none⟩:Addr).add k=⟨b,off+k,none⟩:=by
 unfold Addr.add;split
 ·rename_i h;subst h;rfl
 ·rfl
theorem Xx {α H:Type} {enc:TypeId×Value→H} {P:Program} {w:World} {t e:TypeId} {c:Nat} (vals:α→List Value) (cells:α→List PV) (Good:α→Prop)
  (ht:P.underlying t=some (.slice e)) (hc:P.cellsOf e=c) (hb:0<P.bytesOf e) (hvl:∀ x,(vals x).length=c) (hcl:∀ x,(cells x).length=c) (hsc:∀ x,∀ p∈cells x,p.scalar=true)
  (hrep:∀ (Im:Nat→Prop) x j p,(cells x)[j]? = some p→PRep w Im ((vals x).getD j undef) p)
  (each:∀ (fuel:Nat) (cs:List Value) (y:DataW H×List MemPlace),DataW.trod enc P w 0 (fun _=>true) true fuel e cs=some y→(∀ n∈y.1.weights P e,n≤reachBytes)→∃ x,Good x∧cs=vals x)
  {b:Nat} {v:Value} (hok:Cell.okWide P w .any b t v) {fuel:Nat} {x:DataW H×List MemPlace} (h:DataW.trod enc P w 0 (fun _=>true) true fuel t [v]=some x) (hz:∀ n∈x.1.weights P t,n≤reachBytes) :
  ∃ p:List α,p.length≤140737488355328∧(∀ a∈p,Good a)∧PRep w (Ja w) v (.sl (p.map cells)):=by
 rcases Go.Deep.open_slice ht h with ⟨e1,rfl⟩ | ⟨a,len,cap,m,n,D,Pl,e1,hb0,hl,hm,hmm,rfl,hx⟩
 ·obtain rfl:=(List.cons.inj e1).1;exact ⟨[],by simp,by simp,PRep.slNil⟩
 ·obtain rfl:=(List.cons.inj e1).1;simp only [Cell.okWide,Cell.ok,ht] at hok;obtain ⟨_,_,_,hsp,row,cl,hshape,_⟩:=hok;obtain ⟨blk,off,spot⟩:=a;simp only at hsp;subst hsp;simp only [if_true] at hmm;subst hmm;have hreach:reachBytes≤140737488355328:=by decide
  have hlen:len≤140737488355328:=by
   have h1:=hz ((len+(m - len)) * P.bytesOf e) (by simp [DataW.weights,ht]);have h2:len≤(len+(m - len)) * P.bytesOf e:=by
    have:(len+(m - len)) * 1≤(len+(m - len)) * P.bytesOf e:=Nat.mul_le_mul_left _ hb;omega
   omega
  obtain ⟨p,hp,hq⟩:=Jkw (Q:=fun i x=>Good x∧w.cells? 0 ((⟨blk,off,none⟩:Addr).add (i * c)) c=some (vals x)) len fun i hi=>by
   obtain ⟨cs',h1,h2⟩:=hx i omg;rw [hc] at h1;obtain ⟨x,hg,rfl⟩:=each n cs' _ h2 (fun k hk=>hz k (by
    simp only [DataW.weights,ht,List.mem_cons,List.mem_append];exact .inr (.inl (J8 (List.mem_map.2 ⟨i,List.mem_range.2 hi,rfl⟩) hk))))
   exact ⟨x,hg,h1⟩
  refine ⟨p,by omega,fun a ha=>?_,?_⟩
  ·obtain ⟨i,hi⟩:=List.getElem?_of_mem ha;exact (hq i a hi).1
  ·have hblk:blk<w.heap.size:=by
    rcases Nat.lt_or_ge blk w.heap.size with h | h
    ·exact h
    ·unfold World.shape? at hshape;rw [Array.getElem?_eq_none h] at hshape;cases hshape
   have e2:len=(p.map cells).length:=by simp [hp]
   have key:=PRep.sl (w:=w) (Im:=Ja w) blk off m c (p.map cells) (by rw [← e2];exact hl) hblk (fun i j=>match p[i]? with | some x=>(vals x).getD j undef | none=>undef)
    (fun r hr=>by obtain ⟨x,_,rfl⟩:=List.mem_map.1 hr;exact hcl x)
    (fun r hr=>by obtain ⟨x,_,rfl⟩:=List.mem_map.1 hr;exact hsc x)
    (fun i hi j hj=>by
     rw [← e2] at hi;obtain ⟨x,hx'⟩:∃ x,p[i]? = some x:=⟨_,List.getElem?_eq_getElem omg⟩
     have h1:=(World.cells?_some (hq i x hx').2).2.2 j hj;rw [Go.Deep.add_add,Jka,← Nat.add_assoc] at h1;rw [h1,hx'];have h3:j<(vals x).length:=by rw [hvl];exact hj
     simp [List.getD_eq_getElem?_getD,List.getElem?_eq_getElem h3])
    (fun i r j q hr hq'=>by
     rw [List.getElem?_map] at hr;cases hx':p[i]? with
     | none=>rw [hx'] at hr;cases hr
     | some x =>
      rw [hx'] at hr;obtain rfl:=Option.some.inj hr;exact hrep _ x j q hq')
   rw [← e2] at key;exact key
theorem cBool:Tryz.prog.cellsOf 4=1:=kr
theorem cStr:Tryz.prog.cellsOf 9=1:=kr
theorem cInt:Tryz.prog.cellsOf 3=1:=kr
theorem cNode:Tryz.prog.cellsOf 35=6:=kr
def Step.vals (x:Step):List Value:=[.bool x.part,.string ⟨⟨x.name⟩⟩,.int .i64 x.n]
def Node.vals (n:Node):List Value:=[.int .i64 n.kind,.int .i64 n.many,.string ⟨⟨n.name⟩⟩,.string ⟨⟨n.s⟩⟩,.bool n.neg,.int .i64 n.e]
theorem Jly {H:Type} {enc:TypeId×Value→H} {w:World} (fuel:Nat) (cs:List Value) (y:DataW H×List MemPlace) (h:DataW.trod enc Tryz.prog w 0 (fun _=>true) true fuel 35 cs=some y) (_:∀ n∈y.1.weights Tryz.prog 35,n≤reachBytes) :
  ∃ x:Node,EFit x∧cs=x.vals:=by
 obtain ⟨xs,n,_,rfl,hl,hlen,hf⟩:=DataW.trod_struct Tryz.underlying35 h;rw [cNode] at hl
 match xs,hlen,cs,hl with
 | [y0,y1,y2,y3,y4,y5],_,[a0,a1,a2,a3,a4,a5],_ =>
  have g0:=hf 0 _ rfl;have g1:=hf 1 _ rfl;have g2:=hf 2 _ rfl;have g3:=hf 3 _ rfl;have g4:=hf 4 _ rfl;have g5:=hf 5 _ rfl;simp only [cBool,cStr,cInt,List.drop_zero,List.drop_succ_cons,List.take_succ_cons,List.take_zero,List.getElem?_cons_zero,List.getElem?_cons_succ] at g0 g1 g2 g3 g4 g5;obtain ⟨x0,e0,rfl,_⟩:=DataW.trod_int Tryz.underlying3 g0;obtain ⟨x1,e1,rfl,_⟩:=DataW.trod_int Tryz.underlying3 g1;obtain ⟨x2,e2,rfl,z2⟩:=DataW.trod_string Tryz.underlying9 g2;obtain ⟨x3,e3,rfl,z3⟩:=DataW.trod_string Tryz.underlying9 g3;obtain ⟨x4,e4,rfl⟩:=DataW.trod_bool Tryz.underlying4 g4;obtain ⟨x5,e5,rfl,z5⟩:=DataW.trod_int Tryz.underlying3 g5;cases e0;cases e1;cases e2;cases e3;cases e4;cases e5;have hm:maxLen=9223372036854775807:=by decide
  have k1:IntKind.i64.min = -9223372036854775808:=by decide
  have k2:IntKind.i64.max=9223372036854775807:=by decide
  simp only [Lit.wf,Bool.and_eq_true,decide_eq_true_eq,k1,k2] at z5;have s2:=T8 x2;have s3:=T8 x3;refine ⟨⟨x0,x1,x2.data.toList,x3.data.toList,x4,x5⟩,⟨?_,?_,z5.1,z5.2⟩,?_⟩
  ·show x3.data.toList.length≤_;omega
  ·show x2.data.toList.length≤_;omega
  ·simp only [Node.vals,Jc3]
theorem Jkh {P:Program} {W:World} {r:Reach} {b:Nat} {t e:TypeId} {v:Value} (ht:P.underlying t=some (.slice e)) (h:Cell.okWide P W r b t v):v.cells.toList=[v]:=by
 simp only [Cell.okWide,Cell.ok,ht] at h;cases v <;> first | rfl | (simp at h;done)
theorem J0 {H:Type} {P:Program} {ts:List TypeId} {ds:List (DataW H)} (hz:(DataW.weightsEach P ts ds).all (· ≤ reachBytes)=true) {j:Nat} {t:TypeId} {d:DataW H} (h1:ts[j]? = some t) (h2:ds[j]? = some d):∀ n∈d.weights P t,n≤reachBytes:=fun n hn=>by
 simpa using List.all_eq_true.1 hz n (DataW.weights_mem_each h1 h2 n hn)
theorem Jzh {P:Program} (h:P.funcs.any Func.goes=false) (f:FuncId):P.goes f=false:=by
 unfold Program.goes;rw [h,Bool.and_false,Bool.or_false,List.any_eq_false];intro g _ hg;cases hf:P.funcs[g]? with
 | none=>rw [hf] at hg;cases hg
 | some fn =>
  rw [hf] at hg;rw [Array.any_eq_false] at h;obtain ⟨i,rfl⟩:=Array.getElem?_eq_some_iff.1 hf;exact h g i hg
theorem goesBy_none {P:Program} (h:P.funcs.any Func.goes=false) (c:OpenClaim):false=c.goesBy P:=by
 unfold OpenClaim.goesBy Program.goesAt Program.goesFrom;have h1:(P.funcNamed c.func).any P.goes=false:=by
  cases P.funcNamed c.func with
  | none=>rfl
  | some f=>exact Jzh h f
 rw [h1,Bool.false_or];split
 ·rfl
 ·symm;rw [List.any_eq_false];intro g _ hg;rw [Jzh h g] at hg;cases hg
theorem noGoes:Tryz.pinned.checked.prog.funcs.any Func.goes=false:=kr
end Go.LX
namespace Go.LX
open Go
structure YRow where
 kind:Int
 many:Int
 name:List UInt8
 s:List UInt8
 n:Int
 c:Node
def YRow.cells (r:YRow):List PV:=[.int .i64 r.kind,.int .i64 r.many,.str r.name,.str r.s,.int .i64 r.n,.int .i64 r.c.kind,.int .i64 r.c.many,.str r.c.name,.str r.c.s,.bool r.c.neg,.int .i64 r.c.e]
def rowL (v:List YRow):List (List PV):=v.map YRow.cells
mutual
inductive RT where
 | mk (kind:Int) (s:List UInt8) (n:Int) (c:Node) (kids:RF)
inductive RF where
 | nil
 | cons (name:List UInt8) (t:RT) (rest:RF)
end
def RF.len:RF→Nat
 | .nil=>0
 | .cons _ _ r=>r.len+1
mutual
def RT.enc (name:List UInt8):RT→List YRow
 | .mk k s n c kids=>⟨k,kids.len,name,s,n,c⟩ :: kids.enc
def RF.enc:RF→List YRow
 | .nil=>[]
 | .cons nm t r=>t.enc nm ++ r.enc
end
def RF.app:RF→RF→RF
 | .nil,g=>g
 | .cons nm t r,g=>.cons nm t (r.app g)
theorem Jrn:∀ f g:RF,(f.app g).len=f.len+g.len
 | .nil,g=>by simp [RF.app,RF.len]
 | .cons nm t r,g=>by simp only [RF.app,RF.len,Jrn r g];omega
theorem Jqp:∀ f g:RF,(f.app g).enc=f.enc ++ g.enc
 | .nil,g=>by simp [RF.app,RF.enc]
 | .cons nm t r,g=>by simp only [RF.app,RF.enc,Jqp r g,List.append_assoc]
theorem Jqk {name:List UInt8} {k:Int} {s:List UInt8} {n:Int} {c:Node} {kids:RF}:(RT.mk k s n c kids).enc name=⟨k,kids.len,name,s,n,c⟩ :: kids.enc:=by rw [RT.enc]
theorem Jqh {nm:List UInt8} {t:RT} {r:RF}:(RF.cons nm t r).enc=t.enc nm ++ r.enc:=by rw [RF.enc]
theorem Jq0:RF.nil.enc=[]:=by rw [RF.enc]
theorem Jrj (t:RT) (nm:List UInt8):1≤(t.enc nm).length:=by
 cases t;rw [Jqk];simp
theorem Jqz:∀ f:RF,f.len≤f.enc.length
 | .nil=>by simp [RF.len]
 | .cons nm t r=>by
  have:=Jrj t nm;have:=Jqz r;rw [Jqh,List.length_append,RF.len];omega
@[simp] theorem Jqc (v:List YRow):(rowL v).length=v.length:=by simp [rowL]
theorem Jsq (n:YRow) (v:List YRow):rowL (n :: v)=n.cells :: rowL v:=rfl
theorem J5s:rowL []=[]:=rfl
theorem Jvo (a b:List YRow):rowL (a ++ b)=rowL a ++ rowL b:=by simp [rowL]
theorem Jrc {k m:Int} {nm s:List UInt8} {n:Int} {c:Node}:YRow.cells ⟨k,m,nm,s,n,c⟩=[.int .i64 k,.int .i64 m,.str nm,.str s,.int .i64 n,.int .i64 c.kind,.int .i64 c.many,.str c.name,.str c.s,.bool c.neg,.int .i64 c.e]:=rfl
theorem Jt5 (v:List YRow):∀ q∈rowL v,q.length=11:=by
 intro q hq;obtain ⟨n,_,rfl⟩:=List.mem_map.1 hq;rfl
theorem Jzg {v:List YRow} {i:Nat} {a b:List YRow} (h:v.drop i=a ++ b):((rowL v).drop i).take a.length=rowL a:=by
 have:(rowL v).drop i=rowL a ++ rowL b:=by rw [← Jvo,← h];simp [rowL,List.map_drop]
 rw [this];simp
theorem Jr8 {v:List YRow} {i:Nat} {n:YRow} {b:List YRow} (h:v.drop i=n :: b):(rowL v)[i]? = some n.cells:=by
 have:v[i]? = some n:=by
  have:=congrArg (·[0]?) h;simpa using this
 simp [rowL,this]
theorem Jze {v:List YRow} {i:Nat} {a:List YRow} (h:v.drop i=a) (ha:a≠[]):i+a.length=v.length:=by
 have:=congrArg List.length h;simp at this;have:1≤a.length:=by cases a <;> simp_all
 omega
def RF.list:RF→List (List UInt8×RT)
 | .nil=>[]
 | .cons nm t r=>(nm,t) :: r.list
theorem Jqx:∀ f:RF,f.list.length=f.len
 | .nil=>rfl
 | .cons _ _ r=>by simp [RF.list,RF.len,Jqx r]
def RT.kids:RT→RF
 | .mk _ _ _ _ k=>k
def RT.kind:RT→Int
 | .mk k _ _ _ _=>k
def RT.s:RT→List UInt8
 | .mk _ s _ _ _=>s
def RT.n:RT→Int
 | .mk _ _ n _ _=>n
def RT.c:RT→Node
 | .mk _ _ _ c _=>c
abbrev RKT:=List UInt8×RT
theorem Js0 {nm:List UInt8} {t:RT} {r:RF}:(RF.cons nm t r).len=r.len+1:=rfl
theorem Jrk (t:RT) (nm:List UInt8):(t.enc nm).length=(t.enc []).length:=by
 cases t;rw [Jqk,Jqk];rfl
def rnxt (L:Nat):List YRow→Nat→Option Nat
 | _,0=>some 0
 | [],_+1=>none
 | n :: r,o+1=>if n.many<0∨(L:Int)<n.many then none else (rnxt L r (o+n.many.toNat)).map (· + 1)
theorem Jwb:∀ (m:Nat) (F:RF),m≤F.len→∃ A B:RF,F=A.app B∧A.len=m
 | 0,F,_=>⟨.nil,F,rfl,rfl⟩
 | m+1,.nil,h=>by simp [RF.len] at h
 | m+1,.cons nm t r,h=>by
  obtain ⟨A,B,h1,h2⟩:=Jwb m r (by simp only [RF.len] at h;omega);exact ⟨.cons nm t A,B,by rw [RF.app,← h1],by simp only [RF.len,h2]⟩
theorem Jwp {L:Nat}:∀ {v:List YRow} {o k:Nat},rnxt L v o=some k→∃ F:RF,F.len=o∧v=F.enc ++ v.drop k∧F.enc.length=k
 | v,0,k,h=>by
  simp [rnxt] at h;subst h;exact ⟨.nil,rfl,by simp [Jq0],by simp [Jq0]⟩
 | [],o+1,k,h=>by simp [rnxt] at h
 | n :: r,o+1,k,h=>by
  simp only [rnxt] at h;split at h
  ·cases h
  ·rename_i hn;obtain ⟨k',h',rfl⟩:=Option.map_eq_some_iff.1 h;obtain ⟨F,h1,h2,h3⟩:=Jwp h';obtain ⟨A,B,rfl,hA⟩:=Jwb n.many.toNat F omg;rw [Jrn] at h1;rw [Jqp] at h2 h3;refine ⟨.cons n.name (.mk n.kind n.s n.n n.c A) B,by simp only [RF.len];omega,?_,?_⟩
   ·rw [Jqh,Jqk,List.drop_succ_cons];have e:(⟨n.kind,A.len,n.name,n.s,n.n,n.c⟩:YRow)=n:=by
     have:(A.len:Int)=n.many:=by omega
     rw [this]
    rw [e];simp only [List.cons_append,List.append_assoc];congr 1;rw [← List.append_assoc];exact h2
   ·rw [Jqh,Jqk,List.length_append,List.length_cons];rw [List.length_append] at h3;omega
theorem Jz4 {L:Nat}:∀ (n:Nat) (F:RF) (r:List YRow),F.enc.length≤n→F.enc.length≤L→rnxt L (F.enc ++ r) F.len=some F.enc.length
 | _,.nil,r,_,_=>by simp [RF.len,rnxt,Jq0]
 | 0,.cons nm t rest,r,h,_=>by
  have:=Jrj t nm;rw [Jqh,List.length_append] at h;omega
 | n+1,.cons nm (.mk k s g e kids) rest,r,h,hL=>by
  rw [Jqh,Jqk,List.length_append,List.length_cons] at h hL;have hk:=Jqz kids;have ih:=Jz4 (L:=L) n (kids.app rest) r (by rw [Jqp,List.length_append];omega) (by rw [Jqp,List.length_append];omega);rw [Jqp,Jrn,List.append_assoc,List.length_append] at ih;simp only [Jqh,Jqk,List.cons_append,List.append_assoc,RF.len,rnxt];rw [if_neg omg];simp only [Int.toNat_natCast];rw [Nat.add_comm rest.len,ih];simp only [Option.map_some,List.length_cons,List.length_append]
theorem J0r {v:List YRow}:rnxt v.length v 1=some v.length ↔ ∃ nm t,v=RT.enc nm t:=by
 constructor
 ·intro h;obtain ⟨F,h1,h2,h3⟩:=Jwp h;rw [List.drop_length,List.append_nil] at h2
  match F,h1,h2 with
  | .cons nm t .nil,_,h2=>exact ⟨nm,t,by rw [h2,Jqh,Jq0,List.append_nil]⟩
 ·rintro ⟨nm,t,rfl⟩;have:=Jz4 (L:=(t.enc nm).length) (t.enc nm).length (.cons nm t .nil) [] (by rw [Jqh,Jq0];simp) (by rw [Jqh,Jq0];simp);simpa [Jqh,Jq0,RF.len] using this
def Jsi (v:List YRow) (i o:Nat):Int:=match rnxt v.length (v.drop i) o with
 | some k=>((i+k:Nat):Int)
 | none=>-1
theorem J23 (v:List YRow) (i:Nat):Jsi v i 0=i:=by
 unfold Jsi;have:rnxt v.length (v.drop i) 0=some 0:=by cases v.drop i <;> rfl
 rw [this];rfl
theorem J4s {v:List YRow} {i o:Nat} (h:v.length≤i) (ho:0<o):Jsi v i o = -1:=by
 unfold Jsi;rw [List.drop_eq_nil_of_le h];cases o with
 | zero=>omega
 | succ o=>rfl
theorem J4y {v:List YRow} {i o:Nat} {n:YRow} (h:v[i]? = some n) (ho:0<o) (hb:n.many<0∨(v.length:Int)<n.many):Jsi v i o = -1:=by
 have hi:=(List.getElem?_eq_some_iff.1 h).1;unfold Jsi;rw [List.drop_eq_getElem_cons hi,(List.getElem?_eq_some_iff.1 h).2];cases o with
 | zero=>omega
 | succ o=>simp only [rnxt];rw [if_pos hb]
theorem J2j {v:List YRow} {i o:Nat} {n:YRow} (h:v[i]? = some n) (hb:¬ (n.many<0∨(v.length:Int)<n.many)):Jsi v i (o+1)=Jsi v (i+1) (o+n.many.toNat):=by
 have hi:=(List.getElem?_eq_some_iff.1 h).1;unfold Jsi;rw [List.drop_eq_getElem_cons hi,(List.getElem?_eq_some_iff.1 h).2];simp only [rnxt];rw [if_neg hb];cases rnxt v.length (v.drop (i+1)) (o+n.many.toNat) with
 | none=>rfl
 | some k=>simp only [Option.map_some];omega
theorem Jtb {v:List YRow} {i:Nat} {n:YRow} (h:v[i]? = some n):(rowL v)[i]? = some [.int .i64 n.kind,.int .i64 n.many,.str n.name,.str n.s,.int .i64 n.n,.int .i64 n.c.kind,.int .i64 n.c.many,.str n.c.name,.str n.c.s,.bool n.c.neg,.int .i64 n.c.e]:=by
 simp [rowL,h,YRow.cells]
theorem Jyk:∀ {a b c d:RF},a.app b=c.app d→a.len=c.len→a=c∧b=d
 | .nil,b,.nil,d,h,_=>⟨rfl,h⟩
 | .nil,_,.cons _ _ _,_,_,h=>by simp [RF.len] at h
 | .cons _ _ _,_,.nil,_,_,h=>by simp [RF.len] at h
 | .cons nm t a,b,.cons nm' t' c,d,h,hl=>by
  rw [RF.app,RF.app] at h;injection h with h1 h2 h3
  obtain ⟨rfl,rfl⟩:=Jyk (a:=a) (b:=b) (c:=c) (d:=d) h3 (by simpa [RF.len] using hl);exact ⟨by rw [h1,h2],rfl⟩
theorem J25:∀ (n:Nat) {F G:RF},F.enc.length≤n→F.len=G.len→F.enc=G.enc→F=G
 | _,.nil,.nil,_,_,_=>rfl
 | _,.nil,.cons _ _ _,_,h,_=>by simp [RF.len] at h
 | _,.cons _ _ _,.nil,_,h,_=>by simp [RF.len] at h
 | 0,.cons nm t r,.cons _ _ _,h,_,_=>by
  have:=Jrj t nm;rw [Jqh,List.length_append] at h;omega
 | n+1,.cons nm (.mk k s g e kids) r,.cons nm' (.mk k' s' g' e' kids') r',h,hl,he=>by
  rw [Jqh,Jqk,List.length_append,List.length_cons] at h;rw [Jqh,Jqh,Jqk,Jqk,List.cons_append,List.cons_append] at he;injection he with h1 h2
  injection h1 with g1 g2 g3 g4 g5 g6
  rw [← Jqp,← Jqp] at h2;simp only [RF.len] at hl;have hk:kids.len=kids'.len:=by omega
  have:=J25 n (F:=kids.app r) (G:=kids'.app r') (by rw [Jqp,List.length_append];omega) (by rw [Jrn,Jrn];omega) h2;obtain ⟨rfl,rfl⟩:=Jyk this hk;rw [g1,g3,g4,g5,g6]
theorem J2x {t u:RT} {a b:List UInt8} (h:t.enc a=u.enc b):a=b∧t=u:=by
 have:=J25 (RF.cons a t .nil).enc.length (F:=.cons a t .nil) (G:=.cons b u .nil) (Nat.le_refl _) rfl (by rw [Jqh,Jqh,h]);injection this with h1 h2 _
 exact ⟨h1,h2⟩
theorem J2l {v:List YRow} (h:Jsi v 0 1=v.length):∃ nm t,v=RT.enc nm t:=by
 refine J0r.1 ?_;unfold Jsi at h;rw [List.drop_zero] at h;cases hn:rnxt v.length v 1 with
 | none=>rw [hn] at h;simp at h
 | some k=>rw [hn] at h;simp at h;rw [show k=v.length by omega]
def Jqt:Node:=⟨0,0,[],[],false,0⟩
def Jq8 (c:Node):Prop:=c.kind<5∧c.name=[]∧G3 c.kind c.s c.neg c.e c.many
instance (c:Node):Decidable (Jq8 c):=by unfold Jq8;infer_instance
def J2s (n:Int) (c:Node):Prop:=0≤n∧n≤5∧Jq8 c
instance (n:Int) (c:Node):Decidable (J2s n c):=by unfold J2s;infer_instance
def fldS (s:List UInt8):Prop:=(Je s).2.2=0∧∀ x∈(Je s).1,x.part=false
instance (s:List UInt8):Decidable (fldS s):=by unfold fldS;infer_instance
def J5k (k:Int) (s:List UInt8) (n:Int) (c:Node) (m:Int):Prop :=
 if k=0 then m=0∧s=[]∧n=0∧c=Jqt
 else if k=1 then 0≤m∧1≤n∧n≤31∧s=[]∧c=Jqt
 else if k=9 then m=0∧s=[]∧J2s n c
 else if k=2 then 0≤m∧(n=0∨n=1)∧s=[]∧c=Jqt
 else if k=4 then 0≤m∧n=0∧s=[]∧c=Jqt
 else if k=3∨k=5∨k=6 then m=1∧n=0∧s=[]∧c=Jqt
 else if k=7∨k=8 then m=1∧n=0∧c=Jqt∧fldS s
 else False
instance (k:Int) (s:List UInt8) (n:Int) (c:Node) (m:Int):Decidable (J5k k s n c m):=by unfold J5k;infer_instance
def RRise (l:List RKT):Prop:=l.Pairwise fun p q=>Op.bytesLess p.1 q.1=true
def rkidOK (k:Int) (p:RKT):Prop:=(p.2.kind=9 ↔ k=1)∧(k≠2→p.1=[])∧(k=2→valid p.1=true)
def J6y (k:Int) (l:List RKT):Prop:=(∀ p∈l,rkidOK k p)∧(k=2→RRise l)
def findR (name:List UInt8):List RKT→Option RT
 | []=>none
 | p :: l=>if p.1=name then some p.2 else findR name l
def leadR:RT→List Step→Option RT
 | t,[]=>some t
 | t,x :: p=>if t.kind=2∧x.part=false then (findR x.name t.kids.list).bind fun u=>leadR u p else none
def J6w (t:RT) (p:List Step):Prop:=∃ u,leadR t p=some u∧u.kind=1
def leadOK (k:Int) (s:List UInt8) (l:List RKT):Prop:=(k=7∨k=8)→∀ p,l.head? = some p→J6w p.2 (Je s).1
mutual
def okR:RT→Prop
 | .mk k s n c kids=>J5k k s n c kids.len∧J6y k kids.list∧leadOK k s kids.list∧okRF kids
def okRF:RF→Prop
 | .nil=>True
 | .cons _ t r=>okR t∧okRF r
end
theorem okRF_nil:okRF .nil:=by rw [okRF];trivial
end Go.LX
namespace Go.LX
open Go Go.RowKit Go.Proofs
attribute [local irreducible] Al SWP Bi
def J6v:Nat→RF→List (List PV)
 | _,.nil=>[]
 | i,.cons nm t r=>[.int .i64 i,.int .i64 (i+(t.enc nm).length:Nat)] :: J6v (i+(t.enc nm).length) r
def Jqq (l:List RKT):List (List PV):=l.map fun p=>[.sl (rowL (p.2.enc []))]
@[simp] theorem tpartL_nil:Jqq []=[]:=rfl
theorem Juk {l:List RKT} {k:Nat} {p:List UInt8×RT} (h:l[k]? = some p):Jqq (l.take (k+1))=Jqq (l.take k) ++ [[.sl (rowL (p.2.enc []))]]:=by
 rw [List.take_add_one,h];simp [Jqq]
theorem Jqv (l:List RKT):(Jqq l).length=l.length:=by simp [Jqq]
def atomL (l:List (Int×Node)):List (List PV):=l.map fun a=>[.int .i64 a.1,.int .i64 a.2.kind,.int .i64 a.2.many,.str a.2.name,.str a.2.s,.bool a.2.neg,.int .i64 a.2.e]
def J7d (l:List RKT):List (Int×Node):=l.map fun p=>(p.2.n,p.2.c)
@[simp] theorem atomL_len (l:List (Int×Node)):(atomL l).length=l.length:=by simp [atomL]
end Go.LX
namespace Go.LX
def Jr5 (s:List UInt8):List UInt8:=s.dropWhile (· == 48)
def Jsl (s:List UInt8):List UInt8:=(s.reverse.dropWhile (· == 48)).reverse
theorem Jvq {c:UInt8}:c.toNat=48 ↔ c=48:=by
 constructor
 ·intro h;exact UInt8.toNat_inj.1 (by simpa using h)
 ·intro h;subst h;rfl
theorem J3r (c:UInt8) (l:List UInt8):at_ (c :: l) 0=c.toNat:=by simp [at_]
theorem J3s (l:List UInt8) (c:UInt8):at_ (l ++ [c]) l.length=c.toNat:=by simp [at_,List.getD_eq_getElem?_getD]
theorem J05 {u:List UInt8} (h:at_ u 0≠48):Jr5 u=u:=by
 cases u with
 | nil=>rfl
 | cons c l =>
  rw [J3r] at h;have:c≠48:=fun hc=>h (Jvq.2 hc)
  simp [Jr5,List.dropWhile_cons,this]
theorem J2o (u:List UInt8):(Jr5 u).length≤u.length:=by
 exact (List.dropWhile_sublist _).length_le
theorem J1m (u:List UInt8) (h:0<(Jr5 u).length):at_ (Jr5 u) 0≠48:=by
 induction u with
 | nil=>simp [Jr5] at h
 | cons c l ih =>
  by_cases hc:c=48
  ·subst hc;have:Jr5 (48 :: l)=Jr5 l:=by simp [Jr5]
   rw [this] at h ⊢;exact ih h
  ·have:Jr5 (c :: l)=c :: l:=by simp [Jr5,List.dropWhile_cons,hc]
   rw [this,J3r];exact fun hh=>hc (Jvq.1 hh)
theorem J3e {u:List UInt8} (h:0<u.length):∃ l c,u=l ++ [c]:=by
 have hne:u≠[]:=by intro hu;subst hu;simp at h
 exact ⟨u.dropLast,u.getLast hne,(List.dropLast_concat_getLast hne).symm⟩
theorem Jww (l:List UInt8) (c:UInt8):Jsl (l ++ [c])=if c=48 then Jsl l else l ++ [c]:=by
 simp only [Jsl,List.reverse_append,List.reverse_cons,List.reverse_nil,List.nil_append,List.cons_append,List.dropWhile_cons];by_cases h:c=48
 ·simp [h]
 ·simp [h]
theorem J0s {u:List UInt8} (h0:0<u.length) (h:at_ u (u.length - 1)=48):Jsl (u.take (u.length - 1))=Jsl u:=by
 obtain ⟨l,c,rfl⟩:=J3e h0;have e:(l ++ [c]).length - 1=l.length:=by simp
 rw [e] at h ⊢;rw [J3s,Jvq] at h;rw [Jww,if_pos h];simp
theorem Jwz {u:List UInt8} (h0:0<u.length) (h:at_ u (u.length - 1)≠48):Jsl u=u:=by
 obtain ⟨l,c,rfl⟩:=J3e h0;have e:(l ++ [c]).length - 1=l.length:=by simp
 rw [e,J3s] at h;rw [Jww,if_neg (fun hc=>h (Jvq.2 hc))]
theorem J27 (u:List UInt8):(Jsl u).length≤u.length:=by
 have:=(List.dropWhile_sublist (l:=u.reverse) (fun x=>x == 48)).length_le;simpa [Jsl] using this
theorem J66 {s:List UInt8} (h0:0<s.length):Jr5 (Jsl s)=s ↔ at_ s 0≠48∧at_ s (s.length - 1)≠48:=by
 constructor
 ·intro h;have hl:at_ s (s.length - 1)≠48:=by
   intro hc;have h1:=J2o (Jsl s);rw [h,← J0s h0 hc] at h1;have h2:=J27 (s.take (s.length - 1));simp only [List.length_take] at h2;omega
  rw [Jwz h0 hl] at h;have:=J1m s (by rw [h];exact h0);rw [h] at this;exact ⟨this,hl⟩
 ·rintro ⟨h1,h2⟩;rw [Jwz h0 h2,J05 h1]
end Go.LX
namespace Go.LX
open Go Go.RowKit Go.Proofs Go.Lib
def J6d (c:UInt8):Bool:=decide (48≤c.toNat) && decide (c.toNat≤57)
def Jrg (s:List UInt8):Bool:=s.all J6d
def figR (r:Nat):Bool:=decide (48≤r) && decide (r≤57)
theorem Jxu {n b0 b1 b2 b3:Nat} (h:128≤b0):128≤(decodeN n b0 b1 b2 b3).1:=by
 unfold decodeN
 repeat' split
 all_goals first | omega | (simp_all;done)|(simp_all;omega)
theorem J1x {s:ByteArray} {pos:Nat} (h:figR (Utf8.decode s pos).1=true):figR (s.data.toList.getD pos 0).toNat=true∧(Utf8.decode s pos).2=1:=by
 rw [decode_N] at h ⊢;by_cases hb:(s.data.toList.getD pos 0).toNat<128
 ·rw [decodeN_ascii _ _ _ _ _ hb] at h ⊢;exact ⟨h,rfl⟩
 ·have:=Jxu (n:=s.data.toList.length - pos) (b1:=(s.data.toList.getD (pos+1) 0).toNat) (b2:=(s.data.toList.getD (pos+2) 0).toNat) (b3:=(s.data.toList.getD (pos+3) 0).toNat) (by omega:128≤(s.data.toList.getD pos 0).toNat);simp only [figR,Bool.and_eq_true,decide_eq_true_eq] at h;omega
theorem J2t {s:ByteArray} {pos:Nat} (h:figR (s.data.toList.getD pos 0).toNat=true):Utf8.decode s pos=((s.data.toList.getD pos 0).toNat,1):=by
 rw [decode_N,decodeN_ascii];simp only [figR,Bool.and_eq_true,decide_eq_true_eq] at h;omega
theorem J2b {s:ByteArray}:∀ (f pos:Nat),s.size≤pos+f→idxFuncFrom figR false s f pos = -1→∀ j,pos≤j→j<s.size→figR (s.data.toList.getD j 0).toNat=true
 | 0,pos,hf,_,j,h1,h2=>by omega
 | f+1,pos,hf,h,j,h1,h2=>by
  unfold idxFuncFrom at h;rw [if_pos omg] at h;split at h
  ·omega
  ·rename_i hp;have hp':figR (Utf8.decode s pos).1=true:=by simpa using hp
   obtain ⟨g1,g2⟩:=J1x hp';by_cases hj:j=pos
   ·subst hj;exact g1
   ·rw [g2] at h;exact J2b f (pos+1) omg h j omg h2
theorem J0v {s:ByteArray}:∀ (f pos k:Nat),idxFuncFrom figR false s f pos=(k:Int)→k<s.size∧figR (s.data.toList.getD k 0).toNat=false
 | 0,pos,k,h=>by simp [idxFuncFrom] at h
 | f+1,pos,k,h=>by
  unfold idxFuncFrom at h;split at h
  ·rename_i hlt;split at h
   ·rename_i hp;have hk:pos=k:=by omega
    subst hk;refine ⟨hlt,?_⟩;cases hb:figR (s.data.toList.getD pos 0).toNat with
    | false=>rfl
    | true =>
     rw [J2t hb] at hp;simp only at hp;rw [hb] at hp;cases hp
   ·exact J0v f _ k h
  ·omega
theorem Jyb {l:List UInt8} (hl:l≠[]) (h:figR (decodeLastL l).1=true):figR (l.getD (l.length - 1) 0).toNat=true∧(decodeLastL l).2=1:=by
 unfold decodeLastL at h ⊢;rw [if_neg hl] at h ⊢;split
 ·rename_i hb;rw [if_pos hb] at h;exact ⟨h,rfl⟩
 ·rename_i hb;rw [if_neg hb] at h;simp only at h;split at h
  ·rename_i hd;exfalso;have hlen:0<l.length:=List.length_pos_iff.2 hl;have hfig:(decodeL (l.drop (lastStart l))).1<128:=by simp [figR] at h;omega
   generalize hq:l.drop (lastStart l)=q at hfig hd;cases q with
   | nil =>
    have:=congrArg List.length hq;simp only [List.length_drop,List.length_nil] at this;rw [show (decodeL []).2=1 from by decide] at hd;omega
   | cons c r =>
    have hc:c.toNat<128:=by
     by_cases hc:c.toNat<128
     ·exact hc
     ·exfalso;simp only [decodeL] at hfig;rw [decode_N] at hfig;simp only [List.getD_cons_zero] at hfig;have:=fun n b1 b2 b3=>Jxu (n:=n) (b1:=b1) (b2:=b2) (b3:=b3) (by omega:128≤c.toNat)
      exact absurd hfig (Nat.not_lt.2 (this _ _ _ _))
    rw [decodeL_ascii c r hc] at hd;simp only at hd;have hlr:r=[]:=by
     have:=congrArg List.length hq;simp at this;exact List.eq_nil_of_length_eq_zero omg
    subst hlr;have e:l.getD (l.length - 1) 0=c:=by
     have h1:l[lastStart l]? = some c:=by
      have:=congrArg (fun x=>x[0]?) hq;simpa using this
     have h2:l.length - 1=lastStart l:=by omega
     rw [h2];simp [List.getD_eq_getElem?_getD,h1]
    rw [e] at hb;exact hb hc
  ·exfalso;simp [figR,Utf8.runeError] at h
theorem Jzl {s:ByteArray}:∀ (f i:Nat),i≤f→i≤s.size→lastIdxFuncFrom figR false s f i = -1→∀ j,j<i→figR (s.data.toList.getD j 0).toNat=true
 | 0,i,hf,_,h,j,hj=>by omega
 | f+1,i,hf,hs,h,j,hj=>by
  unfold lastIdxFuncFrom at h;rw [if_pos omg] at h;split at h
  ·omega
  ·rename_i hp;have hsz:s.data.toList.length=s.size:=by simp
   have hl:(s.data.toList.take i).length=i:=by rw [List.length_take];omega
   have hp':figR (decodeLastL (s.data.toList.take i)).1=true:=by simpa using hp
   obtain ⟨g1,g2⟩:=Jyb (by intro hn;rw [hn] at hl;simp at hl;omega) hp';rw [hl] at g1;rw [g2] at h;by_cases hji:j=i - 1
   ·subst hji;have:(s.data.toList.take i).getD (i - 1) 0=s.data.toList.getD (i - 1) 0:=by
     simp [List.getD_eq_getElem?_getD,List.getElem?_take,show i - 1<i by omega]
    rw [← this];exact g1
   ·exact Jzl f (i - 1) omg omg h j omg
theorem Jws {l:List UInt8}:Jrg l=true ↔ ∀ j,j<l.length→figR (l.getD j 0).toNat=true:=by
 simp only [Jrg,List.all_eq_true];constructor
 ·intro h j hj;have:=h l[j] (List.getElem_mem hj);simpa [List.getD_eq_getElem?_getD,hj,figR,J6d] using this
 ·intro h x hx;obtain ⟨j,hj,rfl⟩:=List.getElem_of_mem hx;simpa [List.getD_eq_getElem?_getD,hj,figR,J6d] using h j hj
theorem Jte (s:ByteArray):s.data.toList.length=s.size:=by simp
theorem Jyq (s:ByteArray):((trimF figR s).data.toList == [])=Jrg s.data.toList:=by
 unfold trimF;by_cases hk:idxFunc figR false s = -1
 ·have h1:Jrg s.data.toList=true:=by
   rw [Jws];intro j hj;rw [Jte] at hj;exact J2b s.size 0 omg hk j (Nat.zero_le _) hj
  rw [h1];unfold trimLeftF;rw [if_pos hk];unfold trimRightF;simp [ByteArray.data_extract]
 ·obtain ⟨k,hk2⟩:∃ k:Nat,idxFunc figR false s=k:=by
   rcases idxFunc_range figR false s with h | ⟨h,_⟩
   ·exact absurd h hk
   ·exact ⟨_,(Int.toNat_of_nonneg h).symm⟩
  obtain ⟨h1,h2⟩:=J0v _ _ _ hk2;have h3:Jrg s.data.toList=false:=by
   cases hf:Jrg s.data.toList with
   | false=>rfl
   | true =>
    rw [Jws] at hf;rw [hf k (by rw [Jte];exact h1)] at h2;cases h2
  rw [h3];have ht:trimLeftF figR s=s.extract k s.size:=by
   unfold trimLeftF;rw [if_neg hk,hk2];simp
  rw [ht];generalize hte:s.extract k s.size=t;have htl:t.data.toList=s.data.toList.drop k:=by
   rw [← hte];simp [ByteArray.data_extract,Array.toList_extract];rw [List.take_of_length_le sm]
  have hts:t.size=s.size - k:=by rw [← Jte,htl,List.length_drop,Jte]
  have h0:figR (t.data.toList.getD 0 0).toNat=false:=by
   rw [htl];simpa [List.getD_eq_getElem?_getD,List.getElem?_drop] using h2
  have hlast:0≤lastIdxFunc figR false t:=by
   rcases lastIdxFuncFrom_range figR false t t.size t.size with h | ⟨h,_⟩
   ·have:=Jzl t.size t.size (Nat.le_refl _) (Nat.le_refl _) h 0 omg;rw [h0] at this;cases this
   ·exact h
  have hpos:1≤rightEndF figR t:=by
   unfold rightEndF;rw [if_pos hlast];unfold decodeGoB;by_cases hz:(lastIdxFunc figR false t).toNat=0
   ·rw [hz];have hsz:(t.extract 0 t.size).size=t.size:=by simp
    rw [if_neg (by rw [hsz];omega)];have:=decodeN_ge1;rw [decode_N];have:=this ((t.extract 0 t.size).data.toList.length - 0) ((t.extract 0 t.size).data.toList.getD 0 0).toNat ((t.extract 0 t.size).data.toList.getD (0+1) 0).toNat ((t.extract 0 t.size).data.toList.getD (0+2) 0).toNat ((t.extract 0 t.size).data.toList.getD (0+3) 0).toNat;omega
   ·omega
  have:(trimRightF figR t).data.toList≠[]:=by
   intro hn;unfold trimRightF at hn;have e:(t.extract 0 (rightEndF figR t)).data.toList=t.data.toList.take (rightEndF figR t):=by simp [ByteArray.data_extract,Array.toList_extract]
   rw [e] at hn;have hl:=congrArg List.length hn;rw [List.length_take,Jte] at hl;simp only [List.length_nil] at hl;omega
  simpa using this
end Go.LX
namespace Go.LX
end Go.LX
