/- Types that are right, the document's answer. -/
import Derived.Test.YtgfggbndbceppaaGreatDoorLxV
import Derived.Test.YtgfggbndbceppaaGreatDoorLxU
import Derived.Test.YtgfggbndbceppaaGreatDoorLxT
import Derived.Test.YtgfggbndbceppaaGreatDoorProg
import Derived.WalkKit
import Derived.WalkSpells
import Derived.Lib.ConvBytes
import Derived.Lib.SlBytesRow
import Derived.Lib.AtoiErrMem
import Derived.Test.YtgfggbndbceppaaGreatDoorLxS
import Derived.Test.YtgfggbndbceppaaGreatDoorLxQ
import Derived.Shelf.Strings.Builder1
import Derived.Shelf.Strings.Builder2
import Derived.Shelf.Strings.OnBuilder
import Derived.Shelf.Strings.Trim
import Derived.Shelf.Small.Utf8
import Derived.Shelf.Small.Strs
import Derived.Shelf.Small.Wraps
import Derived.Shelf.Strings.BuilderF
import Derived.Shelf.Strconv.Atoi
import Derived.Shelf.Strconv.Itoa0
import Derived.Shelf.Strconv.Itoa1
import Derived.Shelf.LaysM
import Derived.Shelf.Strconv.Itoa2
import Derived.Shelf.Strconv.Itoa3
import Derived.Shelf.Strconv.Itoa4
import Derived.Shelf.Strconv.AtoiErrFast
import Derived.Shelf.Strconv.ParseIntEmpty
import Derived.Shelf.Strconv.AtoiFail
import Derived.Shelf.Strconv.Clone
import Derived.Shelf.Strconv.SyntaxError
import Derived.Shelf.LaysC
import Derived.Shelf.Strconv.ToError
import Derived.Shelf.Strconv.Lower
import Derived.Shelf.Strconv.ParseUint10
import Derived.Shelf.Strconv.ParseUint10Empty
import Derived.Shelf.Strconv.ParseUint10Any
import Derived.Shelf.Strconv.ParseInt10
import Derived.Shelf.Strconv.AtoiLong
import Derived.Shelf.Strconv.AtoiInnerAll
import Derived.Shelf.Strconv.RangeError
import Derived.Shelf.Strconv.ToErrorRange
import Derived.Shelf.Strconv.AtoiAll
import Derived.Shelf.Strconv.ErrVarAll
import Derived.Shelf.Strconv.ParseUintEmpty
import Derived.Shelf.Strings.Search1
import Derived.Shelf.GgClosure.StringsIndexFunc
import Derived.Shelf.GgClosure.StringsTrimFunc
import Derived.Shelf.Strings.Prefix
import Derived.Shelf.Unicode.Decode
import Derived.Shelf.Strings.Runes
import Derived.Shelf.Strings.IndexAny
import Derived.Shelf.Strings.AsciiSet
import Derived.Shelf.Strings.IndexAnyAll
import Derived.Shelf.Bits.Mul64
import Derived.Shelf.Strings.Repeat
import Derived.Shelf.Unicode.DecodeSlow
import Derived.Shelf.Unicode.DecodeAny
import Derived.Shelf.Unicode.DecodeLast
import Derived.Shelf.Strings.FuncGrows
import Derived.Ground.Names2Prog
import Derived.Shelf.Slices.SearchI
import Derived.Test.YtgfggbndbceppaaGreatDoorLxP
set_option linter.unusedSimpArgs false
set_option linter.unusedVariables false
set_option linter.unusedSectionVars false
set_option linter.unnecessarySimpa false
set_option maxRecDepth 100000
set_option maxHeartbeats 2000000
namespace Go.LX
open Go Go.RowKit Go.Proofs
attribute [local irreducible] Al SWP Bi
def Jsh (name:List UInt8):List RKT→Option (Nat×RT)
 | []=>none
 | p :: l=>if p.1=name then some (0,p.2) else (Jsh name l).map fun x=>(x.1+(p.2.enc p.1).length,x.2)
def Jtc:RT→List Step→Option Nat
 | _,[]=>some 0
 | t,x :: p=>if t.kind=2∧x.part=false then (match Jsh x.name t.kids.list with
  | some y=>(Jtc y.2 p).map fun o=>1+y.1+o
  | none=>none) else none
def Jvw (i:Nat) (o:Option Nat):Int:=match o with
 | some o=>((i+o:Nat):Int)
 | none=>-1
theorem Juj {name:List UInt8}:∀ {f:RF},match Jsh name f.list with
  | some y=>J31 name f.list=some y.2∧∃ b,f.enc.drop y.1=y.2.enc name ++ b
  | none=>J31 name f.list=none
 | .nil=>rfl
 | .cons nm t r=>by
  have ih:=Juj (name:=name) (f:=r);rw [RF.list,Jsh,J31];by_cases hn:nm=name
  ·subst hn;rw [if_pos rfl,if_pos rfl];exact ⟨rfl,r.enc,by rw [Jqe];rfl⟩
  ·rw [if_neg hn,if_neg hn];cases hf:Jsh name r.list with
   | none=>rw [hf] at ih;exact ih
   | some y =>
    rw [hf] at ih;obtain ⟨h1,b,h2⟩:=ih;refine ⟨h1,b,?_⟩;rw [Jqe];show (t.enc nm ++ r.enc).drop (y.1+(t.enc nm).length)=y.2.enc name ++ b;rw [Nat.add_comm,← List.drop_drop,List.drop_left,h2]
theorem Jtr:∀ {p:List Step} {t:RT} {nm:List UInt8},match Jtc t p with
  | some o=>∃ u nm' b,Ju2 t p=some u∧(t.enc nm).drop o=u.enc nm' ++ b
  | none=>Ju2 t p=none
 | [],t,nm=>⟨t,nm,[],Jyd t,by rw [List.drop_zero,List.append_nil]⟩
 | x :: p,.mk k s n c kids,nm=>by
  rw [Jtc,Jvp];by_cases hk:(RT.mk k s n c kids).kind=2∧x.part=false
  ·rw [if_pos hk,if_pos hk];have hf:=Juj (name:=x.name) (f:=kids);rw [show (RT.mk k s n c kids).kids=kids from rfl];cases hfo:Jsh x.name kids.list with
   | none=>rw [hfo] at hf;simp only at hf ⊢;rw [hf];rfl
   | some y =>
    rw [hfo] at hf;obtain ⟨h1,b,h2⟩:=hf;have ih:=Jtr (p:=p) (t:=y.2) (nm:=x.name);simp only;rw [h1];cases hl:Jtc y.2 p with
    | none=>rw [hl] at ih;exact ih
    | some o =>
     rw [hl] at ih;obtain ⟨u,nm',b',g1,g2⟩:=ih;refine ⟨u,nm',b' ++ b,g1,?_⟩;have ho:o≤(y.2.enc x.name).length:=by
      have hpos:=Jrs u nm';have:=congrArg List.length g2;rw [List.length_drop,List.length_append] at this;omega
     show ((RT.mk k s n c kids).enc nm).drop (1+y.1+o)=u.enc nm' ++ (b' ++ b)
     rw [Jqh,show 1+y.1+o=(y.1+o)+1 by omega,List.drop_succ_cons,← List.drop_drop,h2,List.drop_append_of_le_length ho,g2,List.append_assoc]
  ·rw [if_neg hk,if_neg hk]
theorem J8v:∀ (p:List Step) (t:RT) (v:List YRow) (i:Nat) (nm:List UInt8) (rest:List YRow),v.length≤1000000→p.length≤1000000→v.drop i=t.enc nm ++ rest→Det cx 73 [.p (.sl (rowL v)),.p (.int .i64 i),.p (.sl (Bb p))] [] (.p (.int .i64 (Jvw i (Jtc t p)))) []
 | [],t,v,i,nm,rest,hv,hp,h=>by
  have c0:(((Bb []).length:Int)=0)=True:=eq_true rfl;have hl0:Jvw i (Jtc t [])=(i:Int):=by cases t;rfl
  rw [hl0];(refine bgo Tryz.func73 ?_;simp only [go_sem,simprocAttr,c0])
  skip
 | x :: p,.mk k s g e kids,v,i,nm,rest,hv,hp,h=>by
  have ih:=fun (t:RT) (i:Nat) (nm:List UInt8) (rest:List YRow) (h:v.drop i=t.enc nm ++ rest)=>J8v p t v i nm rest hv (by simp at hp;omega) h
  rw [Jqh] at h;have hg0:=Jru h;rw [Jq0] at hg0;have hb:=Jwl h sm;simp only [List.cons_append,List.length_cons,List.length_append] at hb;have hll:=Jqs kids;have hp0:(Bb (x :: p))[0]? = some [.bool x.part,.str x.name,.int .i64 x.n]:=rfl;have hpl:(Bb (x :: p)).length=p.length+1:=by simp [Bb]
  have c0:(((p.length+1:Nat):Int)=0)=False:=eq_false omg;have hsl:((Bb (x :: p)).drop 1).take (p.length+1 - 1)=Bb p:=by
   rw [show Bb (x :: p)=x.cells :: Bb p from rfl,List.drop_succ_cons,List.drop_zero,Nat.add_sub_cancel,List.take_of_length_le (by simp [Bb])]
  have hel3:∀ q∈Bb (x :: p),q.length=3:=by
   intro q hq;obtain ⟨y,_,rfl⟩:=List.mem_map.1 hq;rfl
  have w0:=wj1 (i:=i) omg;by_cases hk:k=2
  ·have e2:=eq_true hk;cases hpt:x.part with
   | true =>
    rw [hpt] at hp0;rw [show Jvw i (Jtc (.mk k s g e kids) (x :: p)) = -1 by rw [Jtc,if_neg (by rw [hpt];simp)];rfl];(refine bgo Tryz.func73 ?_;simp only [go_sem,simprocAttr,hg0,hp0,hpl,c0,e2,not_true_eq_false])
    skip
   | false =>
    rw [hpt] at hp0;rw [Jtc,if_pos ⟨hk,hpt⟩,show (RT.mk k s g e kids).kids=kids from rfl];(refine bgo Tryz.func73 ?_;simp only [go_sem,simprocAttr,hg0,hp0,hpl,c0,e2,w0,not_true_eq_false]);refine SWP.loop (fun y:Nat×Nat×RF=>⟨Ba 54 [(0,.p (.sl (rowL v))),(1,.p (.int .i64 i)),(2,.p (.sl (Bb (x :: p)))),(7,.p (.int .i64 y.2.1)),(8,.p (.int .i64 y.1))],[]⟩) (fun y=>y.1+y.2.2.len=kids.len∧v.drop y.2.1=y.2.2.enc ++ rest∧y.2.1+y.2.2.enc.length=i+1+kids.enc.length∧i+1≤y.2.1∧Jsh x.name kids.list=(Jsh x.name y.2.2.list).map fun z=>(z.1+(y.2.1 - (i+1)),z.2)) (fun y=>y.2.2.enc.length) (0,i+1,kids) Jqb ⟨by simp,by simp only;rw [← List.drop_drop,h];rfl,by simp only,Nat.le_refl _,by simp⟩ ?_;rintro ⟨j,a,F⟩ ⟨h1,h2,h3,h5,h4⟩;simp only at h1 h2 h3 h4 h5
    match F,h1,h2,h3,h4 with
    | .nil,h1,h2,h3,h4 =>
     simp only [RF.len] at h1;have c1:((j:Int)<(kids.len:Int))=False:=eq_false omg;have h4:Jsh x.name kids.list=none:=h4;rw [h4];(refine lws ?_;simp only [go_sem,simprocAttr,hg0,decide_false,c1])
     all_goals rfl
    | .cons nm' t r,h1,h2,h3,h4 =>
     rw [Jsd] at h1;rw [Jqe] at h2 h3;have hp:=Jrs t nm';simp only [List.length_append] at h3;have h2':v.drop a=t.enc nm' ++ (r.enc ++ rest):=by rw [h2,List.append_assoc]
     obtain ⟨k',n',s',g',e',hga⟩:=J30 h2';have c1:((j:Int)<(kids.len:Int))=True:=eq_true omg;rw [RF.list,Jsh] at h4;simp only at h4;by_cases hn:nm'=x.name
     ·rw [if_pos hn] at h4;have en:=eq_true hn;have hL:=ih t a nm' (r.enc ++ rest) h2';have h4:Jsh x.name kids.list=some (0+(a - (i+1)),t):=h4;rw [h4];have hres:Jvw i ((Jtc t p).map fun o=>1+(0+(a - (i+1)))+o)=Jvw a (Jtc t p):=by
       cases Jtc t p with
       | none=>rfl
       | some o=>simp only [Jvw,Option.map_some];omega
      simp only;rw [hres];(refine lws ?_;simp only [go_sem,simprocAttr,hg0,c1]);(repeat' (first | (refine And.intro hel3 ?_)|(refine Jqd ?_)|((first | (refine Jqp ?_)|(refine Jqa (hL) ?_));simp only [go_sem,simprocAttr,hp0,hpl,hga,en]) | fail))
     ·rw [if_neg hn] at h4;have en:=eq_false hn;have hNx:=Jzi v a nm' t (r.enc ++ rest) hv h2';have w1:=wj1 (i:=j) omg;(refine lws ?_;simp only [go_sem,simprocAttr,hg0,c1]);(repeat' (first | ((first | (refine Jqp ?_)|(refine Jqa (hNx) ?_));simp only [go_sem,simprocAttr,hp0,hga,en,w1]) | fail));refine ⟨(j+1,a+(t.enc nm').length,r),⟨by simp only;omega,by simp only;rw [← List.drop_drop,h2',List.drop_left],by simp only;omega,by simp only;omega,?_⟩,by simp only [Jqe,List.length_append];omega,Jqb⟩;simp only;rw [h4,Option.map_map];congr 1;funext z;simp only [Function.comp];congr 1;omega
  ·have e2:=eq_false hk;rw [show Jvw i (Jtc (.mk k s g e kids) (x :: p)) = -1 by rw [Jtc,if_neg (fun h=>hk h.1)];rfl];(refine bgo Tryz.func73 ?_;simp only [go_sem,simprocAttr,hg0,hpl,c0,e2,not_false_eq_true])
   skip
structure RowFit (r:YRow):Prop where
 s:r.s.length≤1000000
 name:r.name.length≤1000000
 c:NodeFitC r.c
theorem Jsm (v:List YRow) (hv:v.length≤10000) (hf:∀ n∈v,RowFit n):Det cx 29 [.p (.sl (rowL v))] [] (.p (.bool (Jrr v))) []:=by
 cases v with
 | nil =>
  have hb:false=Jrr []:=Jr8 (by
   rintro ⟨t,_,_,h⟩;have:=congrArg List.length h;have h1:=Jrs t [];simp at this;omega)
  have c0:(((rowL []).length:Int)=0)=True:=eq_true rfl;rw [← hb];(refine bgo Tryz.func29 ?_;simp only [go_sem,simprocAttr,c0])
  skip
 | cons n r =>
  have hg0:=Jsr (v:=n :: r) (i:=0) (n:=n) rfl;have c0:(((n :: r).length:Int)=0)=False:=eq_false (by simp;omega);have hN:=J7f (n :: r) hv;generalize hvv:n :: r=v at *
  by_cases hnm:n.name=[]
  ·have c2:=eq_true hnm;by_cases hn9:n.kind=9
   ·have c9:=eq_true hn9;have hb:=Jr8 (v:=v) (by
     rintro ⟨t,_,h9,h⟩;cases t with
     | mk k s g e kids =>
      rw [Jqh,← hvv] at h;have:=(List.cons.inj h).1;rw [this] at hn9;exact h9 hn9)
    rw [← hb];(refine bgo Tryz.func29 ?_;simp only [go_sem,simprocAttr,Jqc,hg0,c0,c2,c9,not_true_eq_false])
    skip
   ·have c9:=eq_false hn9;by_cases hnx:Jtd v 0 1=v.length
    ·obtain ⟨nm,t,ht⟩:=J8h hnx;have htk:nm=[]∧t.kind≠9:=by
      cases t with
      | mk k s g e kids =>
       rw [Jqh,← hvv] at ht;have:=(List.cons.inj ht).1;rw [this] at hnm hn9;exact ⟨hnm,hn9⟩
     obtain ⟨rfl,ht9⟩:=htk;have c3:(Jtd v 0 1=(v.length:Int))=True:=eq_true hnx;(refine bgo Tryz.func29 ?_;simp only [go_sem,simprocAttr,Jqc,hg0,c0,c2,c9,not_true_eq_false]);(repeat' (first | ((refine Jqa (hN) ?_);simp only [go_sem,simprocAttr,Jqc,c3,not_true_eq_false]) | fail));have hB:∀ b:Bool,(b=true ↔ okR t)→b=Jrr v:=by
      intro b hb;rw [Bool.eq_iff_iff,hb,Jr7,ht,Jw5];exact ⟨fun h=>⟨h,ht9⟩,fun h=>h.1⟩
     refine SWP.loop (fun x:Nat×RF=>⟨Ba 87 [(0,.p (.sl (rowL v))),(3,.p (.int .i64 x.1))],[]⟩) (fun x=>v.drop x.1=x.2.enc∧x.1+x.2.enc.length=v.length∧(okR t ↔ okRF x.2)) (fun x=>v.length - x.1) (0,.cons [] t .nil) Jqb ⟨by rw [Jqe,Jq5,List.append_nil,List.drop_zero,ht],by rw [Jqe,Jq5,List.append_nil,ht];simp,by rw [Jrv];exact ⟨fun h=>⟨h,Jsj⟩,fun h=>h.1⟩⟩ ?_;rintro ⟨i,F⟩ ⟨h1,h2,h3⟩;simp only at h1 h2 h3
     match F,h1,h2,h3 with
     | .nil,h1,h2,h3 =>
      rw [Jq5] at h2;have c4:((i:Int)<(v.length:Int))=False:=eq_false (by simp at h2;omega);(refine lws ?_;simp only [go_sem,simprocAttr,Jqc,decide_false,c4]);exact hB true (by rw [h3];simp [Jsj])
     | .cons nm' (.mk k s g e kids) r,h1,h2,h3 =>
      rw [Jqe,Jqh] at h1 h2;simp only [List.length_append,List.length_cons] at h2;have c4:((i:Int)<(v.length:Int))=True:=eq_true omg;have hga:=Jru h1;rw [Jq0] at hga;have w1:=wj1 (i:=i) omg;rw [J3f] at h3;have hmem:(⟨k,kids.len,nm',s,g,e⟩:YRow)∈v:=by
       have:(⟨k,kids.len,nm',s,g,e⟩:YRow)∈v.drop i:=by rw [h1];simp
       exact List.mem_of_mem_drop this
      have hfn:=hf _ hmem;have hpl:=Kbj k kids.len nm' s g e hfn.s hfn.c;have hri:=Kbb v i nm' k s g e kids r.enc omg (by rw [h1,Jqh]) fun n hn=>(hf n hn).name
      have hcont:(okR t ↔ okRF (kids.app r))→∃ y:Nat×RF,(v.drop y.1=y.2.enc∧y.1+y.2.enc.length=v.length∧(okR t ↔ okRF y.2))∧v.length - y.1<v.length - i∧y=(i+1,kids.app r):=fun h =>
       ⟨(i+1,kids.app r),⟨by simp only;rw [← List.drop_drop,h1,Jqk];rfl,by simp only;rw [Jqk,List.length_append];omega,h⟩,by simp only;omega,rfl⟩
      by_cases hn1:Jqv k s g e kids.len
      ·rw [decide_eq_true hn1] at hpl;by_cases hk1:Jrq k kids.list
       ·rw [← J9m hk1] at hri;by_cases h78:k=7∨k=8
        ·have hm1:kids.len=1:=by
          have:=hn1;rcases h78 with rfl | rfl <;> simp [Jqv] at this <;> omega
         obtain ⟨nm0,t0,kr,rfl⟩:∃ nm t0 kr,kids=.cons nm t0 kr:=by
          cases kids with
          | nil=>simp [RF.len] at hm1
          | cons a b c=>exact ⟨a,b,c,rfl⟩
         have hd1:v.drop (i+1)=t0.enc nm0 ++ (kr.enc ++ r.enc):=by
          rw [← List.drop_drop,h1,Jqe];simp
         have hP:=Jy1 s hfn.s;have hLd:=J8v (Je s).1 t0 v (i+1) nm0 _ omg (by have:=(Jx4 s).1;omega) hd1;have hsp:=Jtr (p:=(Je s).1) (t:=t0) (nm:=nm0);cases hlo:Jtc t0 (Je s).1 with
         | none =>
          rw [hlo] at hsp hLd;have hnl:¬ Jt1 k s (RF.cons nm0 t0 kr).list:=fun h=>by
           obtain ⟨u,hu,_⟩:=h h78 (nm0,t0) rfl;simp only at hsp hu;rw [hsp] at hu;cases hu
          simp only [Jvw] at hLd;rcases h78 with rfl | rfl
          ·(refine lws ?_;simp only [go_sem,simprocAttr,Jqc,decide_true,c4,hga]);(repeat' (first | ((first | (refine Jqa (hpl) ?_)|(refine Jqa (hri) ?_)|(refine Jqa (hP) ?_)|(refine Jqa (hLd) ?_));simp only [go_sem,simprocAttr,decide_true,hga,w1,Bool.not_true]) | fail));exact hB false (by rw [h3];simp [hnl])
          ·(refine lws ?_;simp only [go_sem,simprocAttr,Jqc,decide_true,c4,hga]);(repeat' (first | ((first | (refine Jqa (hpl) ?_)|(refine Jqa (hri) ?_)|(refine Jqa (hP) ?_)|(refine Jqa (hLd) ?_));simp only [go_sem,simprocAttr,decide_true,hga,w1,Bool.not_true]) | fail));exact hB false (by rw [h3];simp [hnl])
         | some o =>
          rw [hlo] at hsp hLd;obtain ⟨u,nm2,b,hu,hdo⟩:=hsp;have ho:o≤(t0.enc nm0).length:=by
           have hpos:=Jrs u nm2;have:=congrArg List.length hdo;rw [List.length_drop,List.length_append] at this;omega
          have hdu:v.drop (i+1+o)=u.enc nm2 ++ (b ++ (kr.enc ++ r.enc)):=by
           rw [← List.drop_drop,hd1,List.drop_append_of_le_length ho,hdo,List.append_assoc]
          obtain ⟨n4,s4,g4,e4,hgu⟩:=J1l hdu;simp only [Jvw] at hLd;have c7:(((i+1+o:Nat):Int)<0)=False:=eq_false omg;by_cases hu1:u.kind=1
          ·have c8:=eq_true hu1;have hyl:Jt1 k s (RF.cons nm0 t0 kr).list:=fun _ p hp=>by cases hp;exact ⟨u,hu,hu1⟩
           obtain ⟨y,p1,p2,rfl⟩:=hcont (h3.trans ⟨fun h=>h.2.2.2,fun h=>⟨hn1,hk1,hyl,h⟩⟩);rcases h78 with rfl | rfl
           ·(refine lws ?_;simp only [go_sem,simprocAttr,Jqc,decide_true,c4,hga]);(repeat' (first | ((first | (refine Jqa (hpl) ?_)|(refine Jqa (hri) ?_)|(refine Jqa (hP) ?_)|(refine Jqa (hLd) ?_));simp only [go_sem,simprocAttr,decide_false,not_true_eq_false,hga,w1,c7,c8,hgu,Bool.not_true]) | fail));exact ⟨_,p1,p2,Jqb⟩
           ·(refine lws ?_;simp only [go_sem,simprocAttr,Jqc,decide_true,c4,hga]);(repeat' (first | ((first | (refine Jqa (hpl) ?_)|(refine Jqa (hri) ?_)|(refine Jqa (hP) ?_)|(refine Jqa (hLd) ?_));simp only [go_sem,simprocAttr,decide_false,not_true_eq_false,hga,w1,c7,c8,hgu,Bool.not_true]) | fail));exact ⟨_,p1,p2,Jqb⟩
          ·have c8:=eq_false hu1;have hnl:¬ Jt1 k s (RF.cons nm0 t0 kr).list:=fun h=>by
            obtain ⟨u',hu',hk'⟩:=h h78 (nm0,t0) rfl;simp only at hu';rw [hu] at hu';cases hu';exact hu1 hk'
           rcases h78 with rfl | rfl
           ·(refine lws ?_;simp only [go_sem,simprocAttr,Jqc,decide_true,c4,hga]);(repeat' (first | ((first | (refine Jqa (hpl) ?_)|(refine Jqa (hri) ?_)|(refine Jqa (hP) ?_)|(refine Jqa (hLd) ?_));simp only [go_sem,simprocAttr,decide_false,hga,w1,c7,c8,hgu,Bool.not_true]) | fail));exact hB false (by rw [h3];simp [hnl])
           ·(refine lws ?_;simp only [go_sem,simprocAttr,Jqc,decide_true,c4,hga]);(repeat' (first | ((first | (refine Jqa (hpl) ?_)|(refine Jqa (hri) ?_)|(refine Jqa (hP) ?_)|(refine Jqa (hLd) ?_));simp only [go_sem,simprocAttr,decide_false,hga,w1,c7,c8,hgu,Bool.not_true]) | fail));exact hB false (by rw [h3];simp [hnl])
        ·have c7:(k=7)=False:=eq_false (fun h=>h78 (.inl h));have c8:(k=8)=False:=eq_false (fun h=>h78 (.inr h));have hyl:Jt1 k s kids.list:=fun h=>absurd h h78
         obtain ⟨y,p1,p2,rfl⟩:=hcont (h3.trans ⟨fun h=>h.2.2.2,fun h=>⟨hn1,hk1,hyl,h⟩⟩);(refine lws ?_;simp only [go_sem,simprocAttr,Jqc,decide_true,c4,hga]);(repeat' (first | ((first | (refine Jqa (hpl) ?_)|(refine Jqa (hri) ?_));simp only [go_sem,simprocAttr,hga,w1,c7,c8,Bool.not_true]) | fail));exact ⟨_,p1,p2,Jqb⟩
       ·rw [← J9n hk1] at hri;(refine lws ?_;simp only [go_sem,simprocAttr,Jqc,decide_true,c4,hga]);(repeat' (first | ((first | (refine Jqa (hpl) ?_)|(refine Jqa (hri) ?_));simp only [go_sem,simprocAttr,Bool.not_true,Bool.not_false]) | fail));exact hB false (by rw [h3];simp [hk1])
      ·rw [decide_eq_false hn1] at hpl;(refine lws ?_;simp only [go_sem,simprocAttr,Jqc,decide_true,c4,hga]);(repeat' (first | ((refine Jqa (hpl) ?_);simp only [go_sem,simprocAttr,Bool.not_false]) | fail));exact hB false (by rw [h3];simp [hn1])
    ·have c3:(Jtd v 0 1=(v.length:Int))=False:=eq_false hnx;have hb:=Jr8 (v:=v) fun h=>hnx (J5g h)
     rw [← hb];(refine bgo Tryz.func29 ?_;simp only [go_sem,simprocAttr,Jqc,hg0,c0,c2,c9,not_true_eq_false]);(repeat' (first | ((refine Jqa (hN) ?_);simp only [go_sem,simprocAttr,Jqc,c3,not_false_eq_true]) | fail))
  ·have c2:=eq_false hnm;have hb:=Jr8 (v:=v) (by
    rintro ⟨t,_,_,h⟩;cases t with
    | mk k s g e kids =>
     rw [Jqh,← hvv] at h;have:=(List.cons.inj h).1;rw [this] at hnm;exact hnm rfl)
   rw [← hb];(refine bgo Tryz.func29 ?_;simp only [go_sem,simprocAttr,Jqc,hg0,c0,c2,not_false_eq_true])
   skip
end Go.LX
namespace Go.LX
open Go
def incR:List UInt8→List UInt8
 | []=>[]
 | c :: r=>if c=57 then 48 :: incR r else (c+1) :: r
def decR:List UInt8→List UInt8
 | []=>[]
 | c :: r=>if c=48 then 57 :: decR r else (c - 1) :: r
def Jwy (s:List UInt8):List UInt8:=(incR (48 :: s).reverse).reverse
def Jvt (s:List UInt8):List UInt8:=(decR s.reverse).reverse
def Jrd (n:Node) (e:Int):List UInt8:=n.s ++ List.replicate (n.e - e).toNat 48
def topR (n:Node) (above:Bool):Int:=if (n.neg != above)=false∧n.s=[49] then (n.s.length:Int)+n.e - 1 else n.s.length+n.e
def Jqw (n:Node) (above:Bool):Int:=max (topR n above - 100) (-1000)
def Jug (n:Node) (above:Bool):List UInt8:=if (n.neg != above)=true then Jwy (Jrd n (Jqw n above)) else Jvt (Jrd n (Jqw n above))
def Jr2 (n:Node) (above:Bool):Option Node :=
 if n.s=[] then some ⟨3,0,[],[49],!above,-1000⟩
 else if (make n.neg (Jug n above) (Jqw n above)).2=0 then some (make n.neg (Jug n above) (Jqw n above)).1 else none
def numC (a:Int×Node):List Node:=if a.2.kind=3 then a.2 :: ((Jr2 a.2 true).toList ++ (Jr2 a.2 false).toList) else []
def strC (a:Int×Node):List Node:=if a.2.kind=4 then [a.2,⟨4,0,[],a.2.s ++ [0],false,0⟩] else []
def Jv2 (k:Int):Node:=⟨k,0,[],[],false,0⟩
def Jtl (l:List (Int×Node)):List Node:=[Jv2 0,Jv2 1,Jv2 2,Jv2 3] ++ l.flatMap numC
def Js8 (l:List (Int×Node)):List Node:=Jtl l ++ [Jv2 4] ++ l.flatMap strC
theorem J6k:∀ s,(incR s).length=s.length
 | []=>rfl
 | c :: r=>by unfold incR;split <;> simp [J6k r]
theorem J5o:∀ s,(decR s).length=s.length
 | []=>rfl
 | c :: r=>by unfold decR;split <;> simp [J5o r]
theorem J2y (s:List UInt8):(Jwy s).length=s.length+1:=by simp [Jwy,J6k]
theorem Kas (s:List UInt8):(Jvt s).length=s.length:=by simp [Jvt,J5o]
theorem Kd3 {g:Bool} {s:List UInt8} {e:Int} (h:(make g s e).2=0):(make g s e).1.s.length≤100∧(make g s e).1.name=[]∧-1000≤(make g s e).1.e∧(make g s e).1.e≤1000:=by
 unfold make at h ⊢;split
 ·rename_i h1;rw [if_pos h1] at h;cases h
 ·rename_i h1;rw [if_neg h1] at h;split
  ·exact ⟨by simp [node0],rfl,by simp [node0],by simp [node0]⟩
  ·rename_i h2;rw [if_neg h2] at h;split
   ·rename_i h3;rw [if_pos h3] at h;cases h
   ·rename_i h3;rw [if_neg h3] at h;split
    ·rename_i h4;rw [if_pos h4] at h;cases h
    ·rename_i h4;rw [if_neg h4] at h;simp only at h ⊢;split
     ·rename_i h5;rw [if_pos h5] at h;cases h
     ·rename_i h5;rw [if_neg h5] at h;split
      ·rename_i h6;rw [if_pos h6] at h;cases h
      ·rename_i h6;rw [if_neg h6] at h;split
       ·rename_i h7;rw [if_pos h7] at h;cases h
       ·rename_i h7;refine ⟨by simp only;omega,rfl,by simp only;omega,by simp only;omega⟩
structure CandFit (n:Node):Prop where
 s:n.s.length≤1000
 name:n.name=[]
 e0:-1000≤n.e
 e1:n.e≤1000
theorem J1u {n m:Node} {a:Bool} (h:Jr2 n a=some m):CandFit m:=by
 unfold Jr2 at h;split at h
 ·cases h;exact ⟨by simp,rfl,by simp,by simp⟩
 ·split at h
  ·rename_i h2;cases h;obtain ⟨g1,g2,g3,g4⟩:=Kd3 h2;exact ⟨by omega,g2,g3,g4⟩
  ·cases h
theorem Kca {l:List (Int×Node)} (hl:∀ a∈l,CandFit a.2∧a.2.s.length≤500) {n:Node} (h:n∈Js8 l):CandFit n:=by
 have hb:∀ k,CandFit (Jv2 k):=fun k=>⟨by simp [Jv2],rfl,by simp [Jv2],by simp [Jv2]⟩
 simp only [Js8,Jtl,List.mem_append,List.mem_cons,List.not_mem_nil,or_false,List.mem_flatMap] at h;rcases h with (((rfl | rfl | rfl | rfl) | ⟨a,ha,h⟩) | rfl) | ⟨a,ha,h⟩
 ·exact hb 0
 ·exact hb 1
 ·exact hb 2
 ·exact hb 3
 ·unfold numC at h;split at h
  ·simp only [List.mem_cons,List.mem_append,Option.mem_toList] at h;rcases h with rfl | h | h
   ·exact (hl a ha).1
   ·exact J1u h
   ·exact J1u h
  ·cases h
 ·exact hb 4
 ·unfold strC at h;split at h
  ·simp only [List.mem_cons,List.not_mem_nil,or_false] at h;rcases h with rfl | rfl
   ·exact (hl a ha).1
   ·have:=(hl a ha).2;exact ⟨by simp;omega,rfl,by simp,by simp⟩
  ·cases h
end Go.LX
namespace Go.LX
open Go Go.Proofs Go.RowKit
structure BytesOwn (w wr:World) (l:List UInt8):Prop where
 below:Below w.heap.size w wr
 cell:∀ (k:Nat) (c:UInt8),l[k]? = some c→wr.cell? ⟨w.heap.size,k,none⟩=some (.int .u8 (c.toNat:Int))
 soft:∀ k,k<l.length→wr.frozen? ⟨w.heap.size,k,none⟩=false
theorem BytesOwn.set {w wr:World} {l:List UInt8} (h:BytesOwn w wr l) {k:Nat} (hk:k<l.length) (c:UInt8) (v:Int) (hv:v=(c.toNat:Int)):BytesOwn w (wr.setCell ⟨w.heap.size,k,none⟩ (.int .u8 v)) (l.set k c) where
 below:=h.below.setCell (Nat.le_refl _) _
 cell i d hi:=by
  subst hv;by_cases hik:i=k
  ·subst hik;rw [List.getElem?_set_self hk] at hi;cases hi;exact World.cell?_setCell_same _ _ _ (h.cell i l[i] (List.getElem?_eq_getElem hk))
  ·rw [List.getElem?_set_ne (Ne.symm hik)] at hi;rw [World.cell?_setCell_other _ _ _ _ (by intro e;cases e;exact hik rfl)];exact h.cell i d hi
 soft i hi:=by
  rw [World.frozen?_setCell];exact h.soft i (by simpa using hi)
theorem BytesOwn.bytes {w wr:World} {l:List UInt8} (h:BytesOwn w wr l):Lib.Bytes wr w.heap.size 0 ⟨l.toArray⟩:=by
 intro i hi;have hi':i<l.length:=hi;rw [Nat.zero_add];exact h.cell i l[i] (List.getElem?_eq_getElem hi')
def Jte (x y:UInt8) (pre:List UInt8) (c:UInt8) (j r:Nat):List UInt8:=pre ++ c :: (List.replicate (r - j) x ++ List.replicate j y)
end Go.LX
namespace Go.LX
open Go
theorem Jw6 (x y:UInt8) (f:UInt8→UInt8) (g:List UInt8→List UInt8) (h0:g []=[]) (h1:∀ c r,g (c :: r)=if c=x then y :: g r else f c :: r) :
  ∀ l:List UInt8,(∃ c∈l,c≠x)→∃ pre c r,l.reverse=Jte x y pre c 0 r∧c≠x∧c∈l∧(g l).reverse=Jte x y pre (f c) r r
 | [],⟨_,h,_⟩=>by simp at h
 | a :: t,⟨d,hd,hx⟩=>by
  by_cases ha:a=x
  ·subst ha;have hd':d∈t:=by
    rcases List.mem_cons.1 hd with h | h
    ·exact absurd h hx
    ·exact h
   obtain ⟨pre,c,r,e1,e2,e3,e4⟩:=Jw6 a y f g h0 h1 t ⟨d,hd',hx⟩;refine ⟨pre,c,r+1,?_,e2,List.mem_cons_of_mem _ e3,?_⟩
   ·rw [List.reverse_cons,e1];simp [Jte,List.replicate_succ']
   ·rw [h1,if_pos rfl,List.reverse_cons,e4];simp [Jte,List.replicate_succ']
  ·refine ⟨t.reverse,a,0,by simp [Jte],ha,by simp,?_⟩;rw [h1,if_neg ha];simp [Jte]
theorem J8o (s:List UInt8) (h:∃ c∈s,c≠48):∃ pre c r,s=Jte 48 57 pre c 0 r∧c≠48∧c∈s∧Jvt s=Jte 48 57 pre (c - 1) r r:=by
 obtain ⟨d,hd,hx⟩:=h;obtain ⟨pre,c,r,h1,h2,h3,h4⟩:=Jw6 48 57 (fun c=>c - 1) decR rfl (fun _ _=>rfl) s.reverse ⟨d,by simpa using hd,hx⟩;exact ⟨pre,c,r,by simpa using h1,h2,by simpa using h3,h4⟩
theorem J8a (s:List UInt8):∃ pre c r,48 :: s=Jte 57 48 pre c 0 r∧c≠57∧c∈48 :: s∧Jwy s=Jte 57 48 pre (c+1) r r:=by
 obtain ⟨pre,c,r,h1,h2,h3,h4⟩:=Jw6 57 48 (fun c=>c+1) incR rfl (fun _ _=>rfl) (48 :: s).reverse ⟨48,by simp,by decide⟩;exact ⟨pre,c,r,by simpa using h1,h2,List.mem_reverse.1 h3,h4⟩
end Go.LX
namespace Go.LX
open Go Go.RowKit Go.Proofs
attribute [local irreducible] Al SWP Bi
def besL (o:Option Node):L:=match o with
 | some m=>.tup [.agg [.int .i64 m.kind,.int .i64 m.many,.str m.name,.str m.s,.bool m.neg,.int .i64 m.e],.bool true]
 | none=>.tup [.agg [.int .i64 0,.int .i64 0,.str [],.str [],.bool false,.int .i64 0],.bool false]
theorem J57 (n:Node) (e:Int):(Jrd n e).length=n.s.length+(n.e - e).toNat:=by simp [Jrd]
theorem J8z {l:List (Int×Node)} {i:Nat} {a:Int×Node} (h:l[i]? = some a):Jtl (l.take (i+1))=Jtl (l.take i) ++ numC a:=by
 unfold Jtl;rw [List.take_add_one,h];simp
theorem Kdz (a:Int×Node):(numC a).length≤3:=by
 unfold numC;split
 ·cases Jr2 a.2 true <;> cases Jr2 a.2 false <;> simp
 ·simp
theorem J3t (l:List (Int×Node)):(Jtl l).length≤4+3 * l.length:=by
 unfold Jtl;simp only [List.length_append,List.length_cons,List.length_nil];have:∀ l:List (Int×Node),(l.flatMap numC).length≤3 * l.length:=by
  intro l
  induction l with
  | nil=>simp
  | cons a l ih=>have:=Kdz a;simp only [List.flatMap_cons,List.length_append,List.length_cons];omega
 have:=this l;omega
def Js1 (l:List (Int×Node)) (i:Nat):List Node:=Jtl l ++ [Jv2 4] ++ (l.take i).flatMap strC
theorem J73 {l:List (Int×Node)} {i:Nat} {a:Int×Node} (h:l[i]? = some a):Js1 l (i+1)=Js1 l i ++ strC a:=by
 unfold Js1;rw [List.take_add_one,h];simp
theorem Kdv (a:Int×Node):(strC a).length≤2:=by unfold strC;split <;> simp
theorem J25 (l:List (Int×Node)) (i:Nat):(Js1 l i).length≤5+3 * l.length+2 * i:=by
 unfold Js1;have h1:=J3t l;have:∀ l:List (Int×Node),(l.flatMap strC).length≤2 * l.length:=by
  intro l
  induction l with
  | nil=>simp
  | cons a l ih=>have:=Kdv a;simp only [List.flatMap_cons,List.length_append,List.length_cons];omega
 have h2:=this (l.take i);have h3:(l.take i).length≤i:=List.length_take_le _ _;simp only [List.length_append,List.length_cons,List.length_nil];omega
theorem Kbr {n:Node} (h:Jqr n) (hs:n.s.length≤500):CandFit n:=by
 obtain ⟨h1,h2,h3⟩:=h;unfold G3 at h3;by_cases g1:n.kind=0∨n.kind=1∨n.kind=2
 ·rw [if_pos g1] at h3;exact ⟨by omega,h2,by omega,by omega⟩
 ·rw [if_neg g1] at h3;by_cases g2:n.kind=3
  ·rw [if_pos g2] at h3;obtain ⟨_,_,_,k1,k2,_⟩:=h3;exact ⟨by omega,h2,k1,k2⟩
  ·rw [if_neg g2] at h3;by_cases g3:n.kind=4
   ·rw [if_pos g3] at h3;exact ⟨by omega,h2,by omega,by omega⟩
   ·rw [if_neg g3] at h3;by_cases g4:n.kind=5∨n.kind=6
    ·omega
    ·rw [if_neg g4] at h3;exact h3.elim
theorem Ka6 {c:List Node} {p:Node→Bool} {i:Nat} {n:Node} (h:c[i]? = some n):(c.drop i).find? p=if p n=true then some n else (c.drop (i+1)).find? p:=by
 have hi:=(List.getElem?_eq_some_iff.1 h).1;rw [List.drop_eq_getElem_cons hi,List.find?_cons];have:c[i]=n:=by rw [List.getElem?_eq_getElem hi] at h;exact Option.some.inj h
 rw [this];cases p n <;> simp
theorem Kai (l:List (Int×Node)):(Js8 l).length≤5+5 * l.length:=by
 have h:=J25 l l.length;have hR:Js1 l l.length=Js8 l:=by unfold Js1 Js8;rw [List.take_length]
 rw [hR] at h;omega
def J1b (l:List YRow):List (Int×Node):=l.map fun r=>(r.n,r.c)
def Jq7 (v:List YRow) (i m:Nat):List (Int×Node):=J1b ((v.drop (i+1)).take m)
theorem Jwa {v:List YRow} {i m:Nat} (h:i+m<v.length):(Jq7 v i m).length=m:=by
 simp [Jq7,J1b];omega
theorem Jy9 {v:List YRow} {i m j:Nat} {q:YRow} (h:v[i+1+j]? = some q) (hj:j<m):(Jq7 v i m)[j]? = some (q.n,q.c):=by
 simp only [Jq7,J1b,List.getElem?_map,List.getElem?_take,if_pos hj,List.getElem?_drop,h,Option.map_some]
theorem Jyk:∀ (N:Nat) (F:RF),F.enc.length≤N→okRF F→∀ (i:Nat) (r:YRow),F.enc[i]? = some r→r.kind=1 →
  ∃ m:Nat,r.many=(m:Int)∧i+m<F.enc.length∧1≤r.n∧r.n≤31∧∀ j q,j<m→F.enc[i+1+j]? = some q→Jrf q.n q.c
 | 0,F,hN,_,i,r,hr,_=>by
  have:=(List.getElem?_eq_some_iff.1 hr).1;omega
 | N+1,.nil,hN,_,i,r,hr,_=>by rw [Jq5] at hr;simp at hr
 | N+1,.cons nm (.mk k s n c kids) rest,hN,hok,i,r,hr,hk=>by
  rw [J3f] at hok;obtain ⟨h1,h2,h3,h4⟩:=hok;have henc:(RF.cons nm (.mk k s n c kids) rest).enc=⟨k,kids.len,nm,s,n,c⟩ :: (kids.app rest).enc:=by
   rw [Jqe,Jqh,Jqk];rfl
  rw [henc] at hr hN ⊢;cases i with
  | succ i =>
   rw [List.getElem?_cons_succ] at hr;obtain ⟨m,a1,a2,a3,a4,a5⟩:=Jyk N (kids.app rest) (by simp only [List.length_cons] at hN;omega) h4 i r hr hk;refine ⟨m,a1,by simp only [List.length_cons];omega,a3,a4,fun j q hj hq=>?_⟩;rw [show i+1+1+j=(i+1+j)+1 by omega,List.getElem?_cons_succ] at hq;exact a5 j q hj hq
  | zero =>
   rw [List.getElem?_cons_zero] at hr;cases hr;simp only at hk ⊢;subst hk;have hkids:∀ p∈kids.list,p.2.kind=9:=fun p hp=>((h2.1 p hp).1).2 rfl
   rw [Jwb] at h4;have hokk:=Jst.1 h4.1;have hleaf:Jwg kids.list:=by
    intro p hp;have ho:=hokk p hp;have h9:=hkids p hp;obtain ⟨nm',⟨k',s',n',c',kids'⟩⟩:=p;simp only [RT.kind,RT.kids] at h9 ⊢;rw [Jr5] at ho;subst h9;have hz:kids'.len=0:=by have:=ho.1;unfold Jqv at this;simp at this;omega
    cases kids' with
    | nil=>rfl
    | cons a b c=>simp [RF.len] at hz
   unfold Jqv at h1;simp at h1;have hll:=Jqo kids;have hel:=Jx2 hleaf;refine ⟨kids.len,rfl,?_,h1.1,h1.2.1,fun j q hj hq=>?_⟩
   ·rw [Jqk];simp only [List.length_cons,List.length_append];omega
   ·rw [Nat.zero_add,Nat.add_comm 1 j,List.getElem?_cons_succ,Jqk,List.getElem?_append_left omg] at hq;obtain ⟨p,hp⟩:∃ p,kids.list[j]? = some p:=⟨_,List.getElem?_eq_getElem omg⟩
    rw [Jxu hleaf hp] at hq;cases hq;have ho:=hokk p (List.mem_of_getElem? hp);have h9:=hkids p (List.mem_of_getElem? hp);obtain ⟨nm',⟨k',s',n',c',kids'⟩⟩:=p;rw [Jr5] at ho;simp only [RT.kind] at h9;subst h9;have:=ho.1;unfold Jqv at this;simp at this;exact this.2.2
noncomputable def Jta (v:List YRow) (i:Nat):Bool:=match v[i]? with
 | some r=>if r.kind=1 then ((Js8 (Jq7 v i r.many.toNat)).find? (Jso r.n (Jq7 v i r.many.toNat))).isSome else true
 | none=>true
noncomputable def Jss (v:List YRow):Bool:=Jrr v && allF (Jta v) v.length 0
def Jyh (r:YRow):Bool:=decide (r.s.length≤100) && (decide (r.name.length≤100) && decide (r.c.s.length≤100))
def Jsq (v:List YRow) (m:Nat):Bool:=decide (v.length≤m) && v.all Jyh
structure ERow (r:YRow):Prop where
 s:r.s.length≤9223372036854775807
 name:r.name.length≤9223372036854775807
 cs:r.c.s.length≤9223372036854775807
 e0:-9223372036854775808≤r.c.e
 e1:r.c.e≤9223372036854775807
theorem Jx1 (v:List YRow) (m:Nat) (hm':m≤1000) (hv:v.length≤9223372036854775807) (hf:∀ n∈v,ERow n):Det cx 28 [.p (.sl (rowL v)),.p (.int .i64 m)] [] (.p (.bool (Jsq v m))) []:=by
 (refine bgo Tryz.func28 ?_;simp only [go_sem,simprocAttr]);refine SWP.loop (fun i:Nat=>⟨Ba 43 [(0,.p (.sl (rowL v))),(1,.p (.int .i64 m)),(5,.p (.int .i64 i))],[]⟩) (fun i=>i≤v.length∧i≤m∧(v.take i).all Jyh=true) (fun i=>v.length - i) 0 Jqb ⟨Nat.zero_le _,Nat.zero_le _,rfl⟩ ?_;rintro i ⟨h1,h2,h3⟩;by_cases hi:¬ i<v.length
 ·have c1:((i:Int)<(v.length:Int))=False:=eq_false omg;rw [List.take_of_length_le omg] at h3;rw [show Jsq v m=true by unfold Jsq;rw [h3,decide_eq_true omg];rfl];(refine lws ?_;simp only [go_sem,simprocAttr,Jqc,c1])
  skip
 ·have hi:=Decidable.not_not.1 hi;have c1:((i:Int)<(v.length:Int))=True:=eq_true omg;obtain ⟨n,hn⟩:∃ n,v[i]? = some n:=⟨_,List.getElem?_eq_getElem hi⟩
  have hg:=Jsr hn;have hfn:=hf n (List.mem_of_getElem? hn);obtain ⟨f1,f2,f3,f4,f5⟩:=hfn;have w1:=wj1 (i:=i) omg;have hnot:Jyh n=false→Jsq v m=false:=fun h=>by
   unfold Jsq;rw [Bool.and_eq_false_iff];exact .inr (List.all_eq_false.2 ⟨n,List.mem_of_getElem? hn,by rw [h];simp⟩)
  by_cases him:(m:Int)≤(i:Int)
  ·have c2:=eq_true him;rw [show Jsq v m=false by unfold Jsq;rw [decide_eq_false omg];rfl];(refine lws ?_;simp only [go_sem,simprocAttr,Jqc,c1,c2])
   skip
  ·have c2:=eq_false him;(refine lws ?_;simp only [go_sem,simprocAttr,Jqc,c1,c2,hg,w1]);(repeat' (apply iteI <;> intro h))
   all_goals first
    | (
     refine ⟨i+1,⟨by omega,by omega,?_⟩,by omega,Jqb⟩;rw [List.take_add_one,hn,List.all_append,h3];simp [Jyh];omega)
    | (exact (hnot (by unfold Jyh;simp;omega)).symm)
def Kb6 (nm:List UInt8):List YRow→List YRow
 | []=>[]
 | r :: rs=>⟨r.kind,r.many,nm,r.s,r.n,r.c⟩ :: rs
def Juy (ns:List (List UInt8)) (ls:List (List YRow)) (i:Nat):List YRow:=if i<ns.length then Kb6 (ns.getD i []) (ls.getD i []) else ls.getD i []
def Jum (ns:List (List UInt8)) (ls:List (List YRow)):Nat→List YRow
 | 0=>[]
 | i+1=>Jum ns ls i ++ Juy ns ls i
def Juz (y:YRow) (ns:List (List UInt8)) (ls:List (List YRow)):List YRow:=⟨y.kind,ls.length,y.name,y.s,y.n,y.c⟩ :: Jum ns ls ls.length
def Jqy (ls:List (List YRow)):List (List PV):=ls.map fun v=>[.sl (rowL v)]
def Jq1 (ns:List (List UInt8)):List (List PV):=ns.map fun s=>[.str s]
@[simp] theorem Jsp (ls:List (List YRow)):(Jqy ls).length=ls.length:=by simp [Jqy]
@[simp] theorem Js5 (ns:List (List UInt8)):(Jq1 ns).length=ns.length:=by simp [Jq1]
theorem Jvc {ls:List (List YRow)} {i:Nat} {v:List YRow} (h:ls[i]? = some v):(Jqy ls)[i]? = some [.sl (rowL v)]:=by simp [Jqy,h]
theorem J0e {ns:List (List UInt8)} {i:Nat} {v:List UInt8} (h:ns[i]? = some v):(Jq1 ns)[i]? = some [.str v]:=by simp [Jq1,h]
theorem Kak (nm:List UInt8) (l:List YRow):(Kb6 nm l).length=l.length:=by cases l <;> rfl
theorem Kbi (ns:List (List UInt8)) (ls:List (List YRow)) (i:Nat):(Juy ns ls i).length=(ls.getD i []).length:=by
 unfold Juy;split
 ·rw [Kak]
 ·rfl
end Go.LX
namespace Go.LX
open Go
def J9k (op:Int):Prop:=16≤op∧op≤19
instance (op:Int):Decidable (J9k op):=by unfold J9k;infer_instance
def J9u (s:List UInt8):Prop:=(Je s).2.2=0
instance (s:List UInt8):Decidable (J9u s):=by unfold J9u;infer_instance
instance (c:Node):Decidable (Jqr c):=by unfold Jqr;infer_instance
def J7g (op:Int) (s:List UInt8) (n:Int) (c:Node) (m:Int):Prop :=
 if op=0∨op=10∨op=11∨op=14 then s=[]∧n=0∧c=zeroN∧m=0
 else if op=1 then n=0∧c=zeroN∧m=0∧valid s=true
 else if op=2∨op=3 then s=[]∧c=zeroN∧m=0∧0≤n∧n≤1000000
 else if op=4∨op=17∨op=18 then s=[]∧n=0∧c=zeroN∧m=2
 else if op=5∨op=6∨op=7∨op=19 then s=[]∧n=0∧c=zeroN∧m=1
 else if op=8∨op=9 then s=[]∧n=0∧c=zeroN∧0≤m
 else if op=12∨op=13∨op=15 then n=0∧c=zeroN∧m=0∧J9u s
 else if op=16 then m=0∧J9u s∧0≤n∧n≤5∧Jqr c
 else False
def qkidOK (op:Int) (p:RKT):Prop:=(J9k p.2.kind ↔ J9k op∨op=7)∧(op≠8→p.1=[])∧(op=8→valid p.1=true)
def Kfl (op:Int) (l:List RKT):Prop:=(∀ p∈l,qkidOK op p)∧(op=4→∀ p,l.head? = some p→p.2.kind≠4)∧(op=8→(l.map (·.1)).Nodup)
mutual
def okQ:RT→Prop
 | .mk op s n c kids=>J7g op s n c kids.len∧Kfl op kids.list∧okQF kids
def okQF:RF→Prop
 | .nil=>True
 | .cons _ t r=>okQ t∧okQF r
end
theorem okQF_nil:okQF .nil:=by rw [okQF];trivial
end Go.LX
namespace Go.LX
open Go Go.RowKit Go.Proofs
attribute [local irreducible] Al SWP Bi
def J9d (x y:YRow):Prop:=x.kind=y.kind∧x.many=y.many∧x.name=y.name∧x.s=y.s∧x.n=y.n∧x.c=y.c
theorem J3o {x y:YRow}:J9d x y ↔ x=y:=by
 obtain ⟨a1,a2,a3,a4,a5,a6⟩:=x;obtain ⟨b1,b2,b3,b4,b5,b6⟩:=y;unfold J9d;constructor
 ·rintro ⟨h1,h2,h3,h4,h5,h6⟩;simp only at h1 h2 h3 h4 h5 h6;subst h1 h2 h3 h4 h5 h6;rfl
 ·rintro h;cases h;exact ⟨rfl,rfl,rfl,rfl,rfl,rfl⟩
instance (x y:YRow):Decidable (J9d x y):=inferInstanceAs (Decidable (_∧_))
instance:DecidableEq YRow:=fun x y=>decidable_of_iff _ (J3o (x:=x) (y:=y))
theorem rowB {x y:YRow}:(x.kind == y.kind && (x.many == y.many && (x.name == y.name && (x.s == y.s && (x.n == y.n && (x.c.kind == y.c.kind && (x.c.many == y.c.many && (x.c.name == y.c.name && (x.c.s == y.c.s && (x.c.neg == y.c.neg && x.c.e == y.c.e))))))))))=decide (x=y):=by
 rw [Jma,Bool.eq_iff_iff,decide_eq_true_eq,← J3o];simp [J9d]
theorem Jxn {v:List YRow} {i:Nat} {n:YRow} (h:v[i]? = some n):(rowL v)[i]? = some [.int .i64 n.kind,.int .i64 n.many,.str n.name,.str n.s,.int .i64 n.n,.int .i64 n.c.kind,.int .i64 n.c.many,.str n.c.name,.str n.c.s,.bool n.c.neg,.int .i64 n.c.e]:=Jsr h
def Jrp (ls:List (List YRow)):List YRow:=ls.flatMap id
theorem J24 {l:List (List YRow)} {k:Nat} {p:List YRow} (h:l[k]? = some p):Jrp (l.take (k+1))=Jrp (l.take k) ++ p:=by
 unfold Jrp;rw [List.take_add_one,h,Option.toList_some,List.flatMap_append];simp
theorem J62 (l:List (List YRow)) (k:Nat):(Jrp (l.take k)).length≤(Jrp l).length:=by
 have:Jrp l=Jrp (l.take k) ++ Jrp (l.drop k):=by unfold Jrp;rw [← List.flatMap_append,List.take_append_drop]
 rw [this,List.length_append];omega
end Go.LX
namespace Go.LX
open Go
def nmT (s:List UInt8):List UInt8:=if isWd s then s else refQ s
def Jrz (c:Node):List UInt8:=if c.kind=0 then [110,117,108,108] else if c.kind=1 then [102,97,108,115,101] else if c.kind=2 then [116,114,117,101] else if c.kind=3 then Jq8 c else refQ c.s
def Jsf (n:Int):List UInt8:=if n=0 then [61,61] else if n=1 then [33,61] else if n=2 then [60] else if n=3 then [60,61] else if n=4 then [62] else [62,61]
def callN (op:Int):List UInt8:=if op=5 then [109,97,112] else if op=6 then [109,97,112,95,118,97,108,117,101,115] else if op=7 then [115,101,108,101,99,116] else if op=12 then [103,114,111,117,112,95,98,121] else if op=13 then [115,111,114,116,95,98,121] else if op=15 then [100,101,108] else []
def inBr (k:Int) (x:List UInt8):List UInt8:=if k=4∨k=17∨k=18 then 40 :: (x ++ [41]) else x
def Jqq (sep:List UInt8):List (List UInt8)→List UInt8
 | []=>[]
 | [x]=>x
 | x :: y :: l=>x ++ sep ++ Jqq sep (y :: l)
abbrev PTx:=List UInt8×Int×List UInt8
def oneT (op:Int) (p:PTx):List UInt8:=if op=8 then nmT p.1 ++ [58,32] ++ inBr p.2.1 p.2.2 else inBr p.2.1 p.2.2
def J9i (op:Int) (l:List PTx) (sep:List UInt8):List UInt8:=Jqq sep (l.map (oneT op))
def Kdp:List PTx→List UInt8
 | []=>[]
 | p :: _=>p.2.2
def qtextK (op:Int) (s:List UInt8) (n:Int) (c:Node) (l:List PTx):List UInt8 :=
 if op=0 then [46]
 else if op=1 then 46 :: nmT s
 else if op=2 then [46,91] ++ Lib.itoa n ++ [93]
 else if op=3 then [46,91] ++ Lib.itoa n ++ [58,93]
 else if op=4 then (match l with
  | [p,q]=>inBr p.2.1 p.2.2 ++ [32,124,32] ++ q.2.2
  | _=>[])
 else if op=8 then 123 :: (J9i op l [44,32] ++ [125])
 else if op=9 then 91 :: (J9i op l [44,32] ++ [93])
 else if op=10 then [116,111,95,101,110,116,114,105,101,115]
 else if op=11 then [102,114,111,109,95,101,110,116,114,105,101,115]
 else if op=14 then [114,101,118,101,114,115,101]
 else if op=16 then s ++ [32] ++ Jsf n ++ [32] ++ Jrz c
 else if op=17 then J9i op l [32,97,110,100,32]
 else if op=18 then J9i op l [32,111,114,32]
 else if op=19 then 40 :: (Kdp l ++ [32,124,32,110,111,116,41])
 else callN op ++ [40] ++ (if l=[] then s else Kdp l) ++ [41]
mutual
def qtext:RT→List UInt8
 | .mk k s n c kids=>qtextK k s n c (Kdm kids)
def Kdm:RF→List PTx
 | .nil=>[]
 | .cons nm t r=>(nm,t.kind,qtext t) :: Kdm r
end
theorem J8k (s:List UInt8):(nmT s).length≤6 * s.length+2:=by
 have:=Jd4 s;unfold nmT;split <;> omega
theorem Kds (n:Int):(Jsf n).length≤2:=by
 unfold Jsf
 repeat' split
 all_goals simp
def sumT (l:List (List UInt8)):Nat:=(l.map List.length).sum
theorem Jtv (sep:List UInt8):∀ l:List (List UInt8),(Jqq sep l).length≤sumT l+sep.length * l.length
 | []=>by simp [Jqq,sumT]
 | [x]=>by simp [Jqq,sumT]
 | x :: y :: l=>by
  have:=Jtv sep (y :: l);simp only [sumT,List.map_cons,List.sum_cons,List.length_cons] at this ⊢;rw [Jqq,List.length_append,List.length_append,Nat.mul_add];omega
def QFit (s:List UInt8) (n:Int) (c:Node):Prop:=s.length≤100∧c.s.length≤100∧-9223372036854775808≤n∧n≤9223372036854775807∧-9223372036854775808≤c.e∧c.e≤9223372036854775807
mutual
def fitQ:RT→Prop
 | .mk _ s n c kids=>QFit s n c∧Jsz kids
def Jsz:RF→Prop
 | .nil=>True
 | .cons nm t r=>nm.length≤100∧fitQ t∧Jsz r
end
theorem Juw {n:Int} (h0:-9223372036854775808≤n) (h1:n≤9223372036854775807):(Lib.itoa n).length≤21:=Lib.itoa_length_le n h0 h1
theorem Jsu (n:Nat):(Lib.repeatL [48] n).length=n:=by rw [Lib.repeatL_length];simp
theorem Jy4 {c:Node} (hs:c.s.length≤100) (h0:-9223372036854775808≤c.e) (h1:c.e≤9223372036854775807):(Jq8 c).length≤200:=by
 have hg:(Jrg c).length≤1:=by unfold Jrg;split <;> simp
 have hi:=Juw h0 h1;unfold Jq8;split
 ·simp
 ·split
  ·rw [List.length_append,List.length_append,Jsu];omega
  ·split
   ·rename_i h2 _ h3;simp only [List.length_append,List.length_take,List.length_drop,Jsu,List.length_cons,List.length_nil];omega
   ·simp only [List.length_append,List.length_cons,List.length_nil];omega
theorem J1q {c:Node} (hs:c.s.length≤100) (h0:-9223372036854775808≤c.e) (h1:c.e≤9223372036854775807):(Jrz c).length≤700:=by
 have h2:=Jy4 hs h0 h1;have h3:=Jd4 c.s;unfold Jrz
 repeat' split
 all_goals first | omega | simp
def sumP (l:List PTx):Nat:=(l.map fun p=>p.2.2.length).sum
theorem Kce {c:Prop} [Decidable c] {a b:List UInt8} {n:Nat} (ha:a.length≤n) (hb:b.length≤n):(if c then a else b).length≤n:=by split <;> assumption
theorem Jyb {F G:RF} {r s:List YRow} (h:F.enc ++ r=G.enc ++ s) (hl:F.len=G.len):F=G∧r=s:=by
 have e1:=J32 (L:=(F.enc ++ r).length) F.enc.length F r (Nat.le_refl _) sm;have e2:=J32 (L:=(F.enc ++ r).length) G.enc.length G s (Nat.le_refl _) (by rw [h];simp);rw [← h,← hl,e1] at e2;injection e2 with e2
 obtain ⟨h1,h2⟩:=List.append_inj h e2;exact ⟨J7m _ (Nat.le_refl _) hl h1,h2⟩
theorem J3y {t u:RT} {a b:List UInt8} {r s:List YRow} (h:t.enc a ++ r=u.enc b ++ s):a=b∧t=u∧r=s:=by
 obtain ⟨h1,h2⟩:=Jyb (F:=.cons a t .nil) (G:=.cons b u .nil) (r:=r) (s:=s) (by rw [Jqe,Jqe,Jq5,List.append_nil,List.append_nil];exact h) rfl;injection h1 with h3 h4 _
 exact ⟨h3,h4,h2⟩
def two (a b:RT):RT:=.mk 4 [] 0 zeroN (.cons [] a (.cons [] b .nil))
end Go.LX
namespace Go.LX
open Go Go.RowKit Go.Proofs
attribute [local irreducible] Al SWP Bi
def rpartsOf (f:RF):List (List PV):=f.list.map fun p=>[.str p.1,.sl (rowL (p.2.enc []))]
instance (op:Int) (s:List UInt8) (n:Int) (c:Node) (m:Int):Decidable (J7g op s n c m):=by unfold J7g;infer_instance
def rfL:List RKT→RF
 | []=>.nil
 | p :: l=>.cons p.1 p.2 (rfL l)
theorem J4d:∀ l:List RKT,(rfL l).len=l.length
 | []=>rfl
 | p :: l=>by rw [rfL,Jsd,J4d l];rfl
theorem Jxi:∀ l:List RKT,(rfL l).enc=l.flatMap fun p=>p.2.enc p.1
 | []=>Jq5
 | p :: l=>by rw [rfL,Jqe,Jxi l];rfl
theorem Kaj (nm:List UInt8) (t:RT):Kb6 nm (t.enc [])=t.enc nm:=by
 cases t with
 | mk k s n c kids=>rw [Jqh,Jqh];rfl
theorem J0h {l:List RKT} (hn:∀ p∈l,p.1=[]):∀ i,i≤l.length→Jum [] (l.map fun p=>p.2.enc []) i=(rfL (l.take i)).enc
 | 0,_=>by rw [List.take_zero];exact Jq5.symm
 | i+1,h=>by
  obtain ⟨p,hp⟩:∃ p,l[i]? = some p:=⟨_,List.getElem?_eq_getElem omg⟩
  rw [Jum,J0h hn i omg,Jxi,Jxi,List.take_add_one,hp,List.flatMap_append,Juy,if_neg sm];simp [List.getD_eq_getElem?_getD,hp,hn p (List.mem_of_getElem? hp)]
theorem J0g (k m:Int) (s:List UInt8) (n:Int) (c:Node) {l:List RKT} (hn:∀ p∈l,p.1=[]):Juz ⟨k,m,[],s,n,c⟩ [] (l.map fun p=>p.2.enc [])=(RT.mk k s n c (rfL l)).enc []:=by
 rw [Jqh,J4d,Juz,List.length_map,J0h hn l.length (Nat.le_refl _),List.take_length]
def sameL (ns:List (List UInt8)) (t:RT):List RKT:=ns.map fun nm=>(nm,t)
theorem Kd6 (P:Tree→Bool):∀ l:List KT,tupS (List.replicate l.length P) l=allP P l
 | []=>rfl
 | q :: l=>by
  rw [List.length_cons,List.replicate_succ,tupS,Kd6 P l];rfl
end Go.LX
namespace Go.Proofs
open Go.Shelf
def Tryz_lays156_renX:Go.Shelf.Ren:=⟨fun | 156=>79 | 165=>111 | 166=>112 | 169=>94 | 240=>136 | 241=>137 | 276=>166 | 277=>167 | n=>n,fun | 31=>59 | 9=>9 | 3=>3 | 4=>4 | 0=>0 | 20=>20 | 72=>107 | 76=>126 | 70=>104 | 37=>105 | 75=>125 | 127=>144 | 164=>180 | 5=>5 | 80=>111 | n=>n,fun | n=>n⟩
theorem Jw0:Go.Proofs.Lays.n156 Tryz.prog Tryz_lays156_renX:={
 mixed:=by kernel_rfl
 f156:=Tryz.func79.trans (congrArg some (by kernel_rfl))
 f165:=Tryz.func111.trans (congrArg some (by kernel_rfl))
 f166:=Tryz.func112.trans (congrArg some (by kernel_rfl))
 f169:=Tryz.func94.trans (congrArg some (by kernel_rfl))
 f240:=Tryz.func136.trans (congrArg some (by kernel_rfl))
 f241:=Tryz.func137.trans (congrArg some (by kernel_rfl))
 f276:=Tryz.func166.trans (congrArg some (by kernel_rfl))
 f277:=Tryz.func167.trans (congrArg some (by kernel_rfl))
 t0:=Tryz.underlying0
 a0:=Tryz.isAgg0
 z0:=Tryz.sizeOf0
 v0:=Tryz.zeroValue0
 t3:=Tryz.underlying3
 a3:=Tryz.isAgg3
 z3:=Tryz.sizeOf3
 v3:=Tryz.zeroValue3
 t4:=Tryz.underlying4
 a4:=Tryz.isAgg4
 z4:=Tryz.sizeOf4
 v4:=Tryz.zeroValue4
 t9:=Tryz.underlying9
 a9:=Tryz.isAgg9
 z9:=Tryz.sizeOf9
 v9:=Tryz.zeroValue9
 t20:=Tryz.underlying20
 a20:=Tryz.isAgg20
 z20:=Tryz.sizeOf20
 v20:=Tryz.zeroValue20
 t31:=Tryz.underlying59
 a31:=Tryz.isAgg59
 z31:=Tryz.sizeOf59
 v31:=Tryz.zeroValue59
 t37:=Tryz.underlying105
 a37:=Tryz.isAgg105
 z37:=Tryz.sizeOf105
 v37:=Tryz.zeroValue105
 t70:=Tryz.underlying104
 a70:=Tryz.isAgg104
 z70:=Tryz.sizeOf104
 v70:=Tryz.zeroValue104
 t72:=Tryz.underlying107
 a72:=Tryz.isAgg107
 z72:=Tryz.sizeOf107
 v72:=Tryz.zeroValue107
 t75:=Tryz.underlying125
 a75:=Tryz.isAgg125
 z75:=Tryz.sizeOf125
 v75:=Tryz.zeroValue125
 t76:=Tryz.underlying126
 a76:=Tryz.isAgg126
 z76:=Tryz.sizeOf126
 v76:=Tryz.zeroValue126
 t127:=Tryz.underlying144
 a127:=Tryz.isAgg144
 z127:=Tryz.sizeOf144
 v127:=Tryz.zeroValue144
 t164:=Tryz.underlying180
 a164:=Tryz.isAgg180
 z164:=Tryz.sizeOf180
 v164:=Tryz.zeroValue180 }
theorem Js9:Builder.Extra Tryz.prog Tryz_lays156_renX:={
 sizeBuilder:=by kernel_rfl
 liesBuilder:=by kernel_rfl
 t5:=Tryz.underlying5
 a5:=Tryz.isAgg5
 z5:=Tryz.sizeOf5
 v5:=Tryz.zeroValue5
 infoByte:=by kernel_rfl
 cellsByte:=by kernel_rfl
 sizeByte:=by kernel_rfl
 neB5:=by decide }
open Go.RowKit in
theorem Tryz.strings_Join_none (a:Option Addr) (c:Nat) (sep:ByteArray) (w:World) :
  Calls Tryz.prog 79 #[.slice a 0 c,.string sep] w fun e w'=>e=.returned (.string ⟨#[]⟩)∧w'=w:=Any.strings_Join_none Jw0 Js9 a c sep w
open Go.RowKit in
theorem Tryz.strings_Join (bk o c:Nat) (xs:List ByteArray) (sep:ByteArray) (w:World) (hcells:∀ (j:Nat) x,xs[j]? = some x→w.cell? ⟨bk,o+j,none⟩=some (.string x)) (hbk:bk<w.heap.size) (hN:xs.length≤140737488355328) (hcap:xs.length≤c) (hlen:(Lib.join (xs.map (·.data.toList)) sep.data.toList).length≤140737488355328) :
  Calls Tryz.prog 79 #[.slice (some ⟨bk,o,none⟩) xs.length c,.string sep] w fun e w'=>e=.returned (.string ⟨(Lib.join (xs.map (·.data.toList)) sep.data.toList).toArray⟩)∧Below w.heap.size w w':=Any.strings_Join Jw0 Js9 bk o c xs sep w hcells hbk hN hcap hlen
def Tryz_lays105_renX:Go.Shelf.Ren:=⟨fun | 105=>162 | 212=>188 | 99=>174 | 165=>111 | 166=>112 | 170=>189 | 169=>94 | 263=>212 | 264=>213 | 206=>205 | 240=>136 | 241=>137 | 276=>166 | 277=>167 | n=>n,fun | 9=>9 | 3=>3 | 4=>4 | 20=>20 | 0=>0 | 46=>140 | 109=>202 | 5=>5 | 72=>107 | 76=>126 | 51=>198 | 146=>220 | 53=>165 | 148=>222 | 70=>104 | 37=>105 | 75=>125 | 127=>144 | 164=>180 | 80=>111 | n=>n,fun | n=>n⟩
theorem J2j:Go.Proofs.Lays.n105 Tryz.prog Tryz_lays105_renX:={
 mixed:=by kernel_rfl
 f99:=Tryz.func174.trans (congrArg some (by kernel_rfl))
 f105:=Tryz.func162.trans (congrArg some (by kernel_rfl))
 f165:=Tryz.func111.trans (congrArg some (by kernel_rfl))
 f166:=Tryz.func112.trans (congrArg some (by kernel_rfl))
 f169:=Tryz.func94.trans (congrArg some (by kernel_rfl))
 f170:=Tryz.func189.trans (congrArg some (by kernel_rfl))
 f206:=Tryz.func205.trans (congrArg some (by kernel_rfl))
 f212:=Tryz.func188.trans (congrArg some (by kernel_rfl))
 f240:=Tryz.func136.trans (congrArg some (by kernel_rfl))
 f241:=Tryz.func137.trans (congrArg some (by kernel_rfl))
 f263:=Tryz.func212.trans (congrArg some (by kernel_rfl))
 f264:=Tryz.func213.trans (congrArg some (by kernel_rfl))
 f276:=Tryz.func166.trans (congrArg some (by kernel_rfl))
 f277:=Tryz.func167.trans (congrArg some (by kernel_rfl))
 t0:=Tryz.underlying0
 a0:=Tryz.isAgg0
 z0:=Tryz.sizeOf0
 v0:=Tryz.zeroValue0
 t3:=Tryz.underlying3
 a3:=Tryz.isAgg3
 z3:=Tryz.sizeOf3
 v3:=Tryz.zeroValue3
 t4:=Tryz.underlying4
 a4:=Tryz.isAgg4
 z4:=Tryz.sizeOf4
 v4:=Tryz.zeroValue4
 t5:=Tryz.underlying5
 a5:=Tryz.isAgg5
 z5:=Tryz.sizeOf5
 v5:=Tryz.zeroValue5
 t9:=Tryz.underlying9
 a9:=Tryz.isAgg9
 z9:=Tryz.sizeOf9
 v9:=Tryz.zeroValue9
 t20:=Tryz.underlying20
 a20:=Tryz.isAgg20
 z20:=Tryz.sizeOf20
 v20:=Tryz.zeroValue20
 t37:=Tryz.underlying105
 a37:=Tryz.isAgg105
 z37:=Tryz.sizeOf105
 v37:=Tryz.zeroValue105
 t46:=Tryz.underlying140
 a46:=Tryz.isAgg140
 z46:=Tryz.sizeOf140
 v46:=Tryz.zeroValue140
 t51:=Tryz.underlying198
 a51:=Tryz.isAgg198
 z51:=Tryz.sizeOf198
 v51:=Tryz.zeroValue198
 t53:=Tryz.underlying165
 a53:=Tryz.isAgg165
 z53:=Tryz.sizeOf165
 v53:=Tryz.zeroValue165
 t70:=Tryz.underlying104
 a70:=Tryz.isAgg104
 z70:=Tryz.sizeOf104
 v70:=Tryz.zeroValue104
 t72:=Tryz.underlying107
 a72:=Tryz.isAgg107
 z72:=Tryz.sizeOf107
 v72:=Tryz.zeroValue107
 t75:=Tryz.underlying125
 a75:=Tryz.isAgg125
 z75:=Tryz.sizeOf125
 v75:=Tryz.zeroValue125
 t76:=Tryz.underlying126
 a76:=Tryz.isAgg126
 z76:=Tryz.sizeOf126
 v76:=Tryz.zeroValue126
 t109:=Tryz.underlying202
 a109:=Tryz.isAgg202
 z109:=Tryz.sizeOf202
 v109:=Tryz.zeroValue202
 t127:=Tryz.underlying144
 a127:=Tryz.isAgg144
 z127:=Tryz.sizeOf144
 v127:=Tryz.zeroValue144
 t146:=Tryz.underlying220
 a146:=Tryz.isAgg220
 z146:=Tryz.sizeOf220
 v146:=Tryz.zeroValue220
 t148:=Tryz.underlying222
 a148:=Tryz.isAgg222
 z148:=Tryz.sizeOf222
 v148:=Tryz.zeroValue222
 t164:=Tryz.underlying180
 a164:=Tryz.isAgg180
 z164:=Tryz.sizeOf180
 v164:=Tryz.zeroValue180 }
theorem Ju9:Builder.Extra Tryz.prog Tryz_lays105_renX:={
 sizeBuilder:=by kernel_rfl
 liesBuilder:=by kernel_rfl
 t5:=Tryz.underlying5
 a5:=Tryz.isAgg5
 z5:=Tryz.sizeOf5
 v5:=Tryz.zeroValue5
 infoByte:=by kernel_rfl
 cellsByte:=by kernel_rfl
 sizeByte:=by kernel_rfl
 neB5:=by decide }
open Go.RowKit Go.Lib in
theorem Tryz.strings_Repeat (s:ByteArray) (c:Nat) (w:World) (hc:c≤9223372036854775807) (hlen:s.size * c≤140737488355328) :
  Calls Tryz.prog 162 #[.string s,.int .i64 c] w fun e w'=>e=.returned (.string ⟨(Lib.repeatL s.data.toList c).toArray⟩)∧Below w.heap.size w w':=Any.strings_Repeat J2j Ju9 s c w hc hlen
end Go.Proofs
set_option maxRecDepth 100000
set_option maxHeartbeats 2000000
namespace Go.LX
open Go Go.RowKit Go.Proofs
attribute [local irreducible] Al SWP Bi
theorem Jvx (s:List UInt8) (n:Nat) (hn:n≤9223372036854775807) (hl:s.length * n≤140737488355328):Det cx 162 [.p (.str s),.p (.int .i64 n)] [] (.p (.str (Lib.repeatL s n))) []:=by
 refine Jrh (v:=.string ⟨⟨Lib.repeatL s n⟩⟩) (enters_of Tryz.func162 krf rfl) rfl (fun β w Im=>PRep.str _) fun β Im w vs hg hf=>?_
 obtain ⟨v,u,rfl,h1,h2⟩:=fit2 hf;cases Ks h1;cases Mz h2;exact Tryz.strings_Repeat ⟨⟨s⟩⟩ n w hn hl
theorem J20 (s:List UInt8) (n:Int) (h0:0≤n) (hn:n≤9223372036854775807) (hl:s.length * n.toNat≤140737488355328):Det cx 162 [.p (.str s),.p (.int .i64 n)] [] (.p (.str (Lib.repeatL s n.toNat))) []:=by
 have:=Jvx s n.toNat omg hl
 rwa [Int.toNat_of_nonneg h0] at this
theorem J8f (n:Node) (hn:n.small):Det cx 161 [.p (.agg n.pv)] [] (.p (.str (Jq8 n))) []:=by
 obtain ⟨a1,a2,a3⟩:=hn;have hr:∀ k,(Lib.repeatL [48] k).length=k:=Jsu;have w1:IntKind.i64.wrap (1 - n.e)=1 - n.e:=Aa omg omg;have w2:IntKind.i64.wrap (1 - n.e - n.s.length)=1 - n.e - n.s.length:=Aa omg omg;have w3:IntKind.i64.wrap (n.s.length+n.e)=n.s.length+n.e:=Aa omg omg;have w4:IntKind.i64.wrap (((1 - n.e - n.s.length).toNat:Int)+n.s.length+n.e)=((1 - n.e - n.s.length).toNat:Int)+n.s.length+n.e:=Aa omg omg;have hmax:max (1 - n.e - (n.s.length:Int)) 0=((1 - n.e - n.s.length).toNat:Nat):=by omega
 have hi:=Juw (n:=n.e) omg omg;(refine bgo Tryz.func161 ?_;simp only [go_sem,simprocAttr,Jr9,w1,w2,w3,hmax]);(repeat' (first | (apply iteI <;> intro h)|(refine Jqd ?_)|((first | (refine Jqp ?_)|(refine Jqa (J20 [48] n.e omg omg (by simp;omega)) ?_)|(refine Jqa (Jvx [48] _ omg (by simp;omega)) ?_)|(refine Jqa (N0 n.e omg omg) ?_));simp only [go_sem,simprocAttr,w4,hr,List.length_append,Int.natCast_add])|(exfalso;omega)))
 all_goals (try (refine ⟨by simp [hr];omega,by simp [hr];omega,by omega,by omega,by simp [hr];omega,?_⟩))
 all_goals clear hmax w1 w2 w3 w4
 all_goals simp [Jq8,Jrg, *]
theorem tdivN (m:Nat):((m:Int)).tdiv 10=((m / 10:Nat):Int):=rfl
theorem Keh (m:Nat):(-(m:Int)).tdiv 10 = -((m / 10:Nat):Int):=by rw [Int.neg_tdiv];rfl
theorem tmodN (m:Nat):((m:Int)).tmod 10=((m % 10:Nat):Int):=rfl
theorem Kes (m:Nat):(-(m:Int)).tmod 10 = -((m % 10:Nat):Int):=by rw [Int.neg_tmod];rfl
theorem Jvk (m:Nat):u8of (48+((m % 10:Nat):Int))=UInt8.ofNat (48+m % 10):=by
 unfold u8of;congr 1;omega
theorem Jwj (k:Nat):Lib.repeatL [48] (k+1)=Lib.repeatL [48] k ++ [48]:=by
 induction k with
 | zero=>rfl
 | succ k ih =>
  show [48] ++ Lib.repeatL [48] (k+1)=_
  conv=>lhs;rw [ih]
  show _=([48] ++ Lib.repeatL [48] k) ++ [48]
  rw [List.append_assoc]
theorem Js6:Lib.repeatL [48] 0=[]:=rfl
theorem Jwk (k:Nat):Lib.repeatL [48] (k+1)=48 :: Lib.repeatL [48] k:=rfl
end Go.LX
