/- Types that are right, the document's answer. -/
import Derived.Test.YtpdaccjebbbbaaaGreatDoorLxV
import Derived.Test.YtpdaccjebbbbaaaGreatDoorLxT
import Derived.Test.YtpdaccjebbbbaaaGreatDoorProg
import Derived.WalkKit
import Derived.WalkSpells
import Derived.Lib.ConvBytes
import Derived.Lib.SlBytesRow
import Derived.Lib.AtoiErrMem
import Derived.Test.YtpdaccjebbbbaaaGreatDoorLxS
import Derived.Test.YtpdaccjebbbbaaaGreatDoorLxQ
set_option linter.unusedSimpArgs false
set_option linter.unusedVariables false
set_option linter.unusedSectionVars false
set_option linter.unnecessarySimpa false
set_option maxRecDepth 100000
set_option maxHeartbeats 2000000
namespace Go.LX
open Go Go.RowKit Go.Proofs
attribute [local irreducible] Al SWP Bi
def Jsj (name:List UInt8):List RKT→Option (Nat×RT)
 | []=>none
 | p :: l=>if p.1=name then some (0,p.2) else (Jsj name l).map fun x=>(x.1+(p.2.enc p.1).length,x.2)
def Jss:RT→List Step→Option Nat
 | _,[]=>some 0
 | t,x :: p=>if t.kind=2∧x.part=false then (match Jsj x.name t.kids.list with
  | some y=>(Jss y.2 p).map fun o=>1+y.1+o
  | none=>none) else none
def Jwh (i:Nat) (o:Option Nat):Int:=match o with
 | some o=>((i+o:Nat):Int)
 | none=>-1
theorem Jt6 {name:List UInt8}:∀ {f:RF},match Jsj name f.list with
  | some y=>J0w name f.list=some y.2∧∃ b,f.enc.drop y.1=y.2.enc name ++ b
  | none=>J0w name f.list=none
 | .nil=>rfl
 | .cons nm t r=>by
  have ih:=Jt6 (name:=name) (f:=r);rw [RF.list,Jsj,J0w];by_cases hn:nm=name
  ·subst hn;rw [if_pos rfl,if_pos rfl];exact ⟨rfl,r.enc,by rw [Jqf];rfl⟩
  ·rw [if_neg hn,if_neg hn];cases hf:Jsj name r.list with
   | none=>rw [hf] at ih;exact ih
   | some y =>
    rw [hf] at ih;obtain ⟨h1,b,h2⟩:=ih;refine ⟨h1,b,?_⟩;rw [Jqf];show (t.enc nm ++ r.enc).drop (y.1+(t.enc nm).length)=y.2.enc name ++ b;rw [Nat.add_comm,← List.drop_drop,List.drop_left,h2]
theorem Jud:∀ {p:List Step} {t:RT} {nm:List UInt8},match Jss t p with
  | some o=>∃ u nm' b,Juh t p=some u∧(t.enc nm).drop o=u.enc nm' ++ b
  | none=>Juh t p=none
 | [],t,nm=>⟨t,nm,[],Jwy t,by rw [List.drop_zero,List.append_nil]⟩
 | x :: p,.mk k s n c kids,nm=>by
  rw [Jss,Jub];by_cases hk:(RT.mk k s n c kids).kind=2∧x.part=false
  ·rw [if_pos hk,if_pos hk];have hf:=Jt6 (name:=x.name) (f:=kids);rw [show (RT.mk k s n c kids).kids=kids from rfl];cases hfo:Jsj x.name kids.list with
   | none=>rw [hfo] at hf;simp only at hf ⊢;rw [hf];rfl
   | some y =>
    rw [hfo] at hf;obtain ⟨h1,b,h2⟩:=hf;have ih:=Jud (p:=p) (t:=y.2) (nm:=x.name);simp only;rw [h1];cases hl:Jss y.2 p with
    | none=>rw [hl] at ih;exact ih
    | some o =>
     rw [hl] at ih;obtain ⟨u,nm',b',g1,g2⟩:=ih;refine ⟨u,nm',b' ++ b,g1,?_⟩;have ho:o≤(y.2.enc x.name).length:=by
      have hpos:=Jr1 u nm';have:=congrArg List.length g2;rw [List.length_drop,List.length_append] at this;omega
     show ((RT.mk k s n c kids).enc nm).drop (1+y.1+o)=u.enc nm' ++ (b' ++ b)
     rw [Jqi,show 1+y.1+o=(y.1+o)+1 by omega,List.drop_succ_cons,← List.drop_drop,h2,List.drop_append_of_le_length ho,g2,List.append_assoc]
  ·rw [if_neg hk,if_neg hk]
theorem J8j:∀ (p:List Step) (t:RT) (v:List YRow) (i:Nat) (nm:List UInt8) (rest:List YRow),v.length≤1000000→p.length≤1000000→v.drop i=t.enc nm ++ rest→Det cx 14 [.p (.sl (rowL v)),.p (.int .i64 i),.p (.sl (Bb p))] [] (.p (.int .i64 (Jwh i (Jss t p)))) []
 | [],t,v,i,nm,rest,hv,hp,h=>by
  have c0:(((Bb []).length:Int)=0)=True:=eq_true rfl;have hl0:Jwh i (Jss t [])=(i:Int):=by cases t;rfl
  rw [hl0];(refine bgo Tryz.func14 ?_;simp only [go_sem,simprocAttr,c0])
  skip
 | x :: p,.mk k s g e kids,v,i,nm,rest,hv,hp,h=>by
  have ih:=fun (t:RT) (i:Nat) (nm:List UInt8) (rest:List YRow) (h:v.drop i=t.enc nm ++ rest)=>J8j p t v i nm rest hv (by simp at hp;omega) h
  rw [Jqi] at h;have hg0:=Jrr h;rw [Jrd] at hg0;have hb:=Jvd h sm;simp only [List.cons_append,List.length_cons,List.length_append] at hb;have hll:=Jq9 kids;have hp0:(Bb (x :: p))[0]? = some [.bool x.part,.str x.name,.int .i64 x.n]:=rfl;have hpl:(Bb (x :: p)).length=p.length+1:=by simp [Bb]
  have c0:(((p.length+1:Nat):Int)=0)=False:=eq_false omg;have hsl:((Bb (x :: p)).drop 1).take (p.length+1 - 1)=Bb p:=by
   rw [show Bb (x :: p)=x.cells :: Bb p from rfl,List.drop_succ_cons,List.drop_zero,Nat.add_sub_cancel,List.take_of_length_le (by simp [Bb])]
  have hel3:∀ q∈Bb (x :: p),q.length=3:=by
   intro q hq;obtain ⟨y,_,rfl⟩:=List.mem_map.1 hq;rfl
  have w0:=wj1 (i:=i) omg;by_cases hk:k=2
  ·have e2:=eq_true hk;cases hpt:x.part with
   | true =>
    rw [hpt] at hp0;rw [show Jwh i (Jss (.mk k s g e kids) (x :: p)) = -1 by rw [Jss,if_neg (by rw [hpt];simp)];rfl];(refine bgo Tryz.func14 ?_;simp only [go_sem,simprocAttr,hg0,hp0,hpl,c0,e2,not_true_eq_false])
    skip
   | false =>
    rw [hpt] at hp0;rw [Jss,if_pos ⟨hk,hpt⟩,show (RT.mk k s g e kids).kids=kids from rfl];(refine bgo Tryz.func14 ?_;simp only [go_sem,simprocAttr,hg0,hp0,hpl,c0,e2,w0,not_true_eq_false]);refine SWP.loop (fun y:Nat×Nat×RF=>⟨Ba 54 [(0,.p (.sl (rowL v))),(1,.p (.int .i64 i)),(2,.p (.sl (Bb (x :: p)))),(7,.p (.int .i64 y.2.1)),(8,.p (.int .i64 y.1))],[]⟩) (fun y=>y.1+y.2.2.len=kids.len∧v.drop y.2.1=y.2.2.enc ++ rest∧y.2.1+y.2.2.enc.length=i+1+kids.enc.length∧i+1≤y.2.1∧Jsj x.name kids.list=(Jsj x.name y.2.2.list).map fun z=>(z.1+(y.2.1 - (i+1)),z.2)) (fun y=>y.2.2.enc.length) (0,i+1,kids) Jqc ⟨by simp,by simp only;rw [← List.drop_drop,h];rfl,by simp only,Nat.le_refl _,by simp⟩ ?_;rintro ⟨j,a,F⟩ ⟨h1,h2,h3,h5,h4⟩;simp only at h1 h2 h3 h4 h5
    match F,h1,h2,h3,h4 with
    | .nil,h1,h2,h3,h4 =>
     simp only [RF.len] at h1;have c1:((j:Int)<(kids.len:Int))=False:=eq_false omg;have h4:Jsj x.name kids.list=none:=h4;rw [h4];(refine lws ?_;simp only [go_sem,simprocAttr,hg0,decide_false,c1])
     all_goals rfl
    | .cons nm' t r,h1,h2,h3,h4 =>
     rw [Jr6] at h1;rw [Jqf] at h2 h3;have hp:=Jr1 t nm';simp only [List.length_append] at h3;have h2':v.drop a=t.enc nm' ++ (r.enc ++ rest):=by rw [h2,List.append_assoc]
     obtain ⟨k',n',s',g',e',hga⟩:=J74 h2';have c1:((j:Int)<(kids.len:Int))=True:=eq_true omg;rw [RF.list,Jsj] at h4;simp only at h4;by_cases hn:nm'=x.name
     ·rw [if_pos hn] at h4;have en:=eq_true hn;have hL:=ih t a nm' (r.enc ++ rest) h2';have h4:Jsj x.name kids.list=some (0+(a - (i+1)),t):=h4;rw [h4];have hres:Jwh i ((Jss t p).map fun o=>1+(0+(a - (i+1)))+o)=Jwh a (Jss t p):=by
       cases Jss t p with
       | none=>rfl
       | some o=>simp only [Jwh,Option.map_some];omega
      simp only;rw [hres];(refine lws ?_;simp only [go_sem,simprocAttr,hg0,c1]);(repeat' (first | (refine And.intro hel3 ?_)|(refine Jqd ?_)|((first | (refine Jql ?_)|(refine Jqa (hL) ?_));simp only [go_sem,simprocAttr,hp0,hpl,hga,en]) | fail))
     ·rw [if_neg hn] at h4;have en:=eq_false hn;have hNx:=J6l v a nm' t (r.enc ++ rest) hv h2';have w1:=wj1 (i:=j) omg;(refine lws ?_;simp only [go_sem,simprocAttr,hg0,c1]);(repeat' (first | ((first | (refine Jql ?_)|(refine Jqa (hNx) ?_));simp only [go_sem,simprocAttr,hp0,hga,en,w1]) | fail));refine ⟨(j+1,a+(t.enc nm').length,r),⟨by simp only;omega,by simp only;rw [← List.drop_drop,h2',List.drop_left],by simp only;omega,by simp only;omega,?_⟩,by simp only [Jqf,List.length_append];omega,Jqc⟩;simp only;rw [h4,Option.map_map];congr 1;funext z;simp only [Function.comp];congr 1;omega
  ·have e2:=eq_false hk;rw [show Jwh i (Jss (.mk k s g e kids) (x :: p)) = -1 by rw [Jss,if_neg (fun h=>hk h.1)];rfl];(refine bgo Tryz.func14 ?_;simp only [go_sem,simprocAttr,hg0,hpl,c0,e2,not_false_eq_true])
   skip
structure RowFit (r:YRow):Prop where
 s:r.s.length≤1000000
 name:r.name.length≤1000000
 c:NodeFitC r.c
theorem J1g (v:List YRow) (hv:v.length≤10000) (hf:∀ n∈v,RowFit n):Det cx 5 [.p (.sl (rowL v))] [] (.p (.bool (Jrp v))) []:=by
 cases v with
 | nil =>
  have hb:false=Jrp []:=Jrl (by
   rintro ⟨t,_,_,h⟩;have:=congrArg List.length h;have h1:=Jr1 t [];simp at this;omega)
  have c0:(((rowL []).length:Int)=0)=True:=eq_true rfl;rw [← hb];(refine bgo Tryz.func5 ?_;simp only [go_sem,simprocAttr,c0])
  skip
 | cons n r =>
  have hg0:=Jse (v:=n :: r) (i:=0) (n:=n) rfl;have c0:(((n :: r).length:Int)=0)=False:=eq_false (by simp;omega);have hN:=J5w (n :: r) hv;generalize hvv:n :: r=v at *
  by_cases hnm:n.name=[]
  ·have c2:=eq_true hnm;by_cases hn9:n.kind=9
   ·have c9:=eq_true hn9;have hb:=Jrl (v:=v) (by
     rintro ⟨t,_,h9,h⟩;cases t with
     | mk k s g e kids =>
      rw [Jqi,← hvv] at h;have:=(List.cons.inj h).1;rw [this] at hn9;exact h9 hn9)
    rw [← hb];(refine bgo Tryz.func5 ?_;simp only [go_sem,simprocAttr,Jqb,hg0,c0,c2,c9,not_true_eq_false])
    skip
   ·have c9:=eq_false hn9;by_cases hnx:Jsp v 0 1=v.length
    ·obtain ⟨nm,t,ht⟩:=J45 hnx;have htk:nm=[]∧t.kind≠9:=by
      cases t with
      | mk k s g e kids =>
       rw [Jqi,← hvv] at ht;have:=(List.cons.inj ht).1;rw [this] at hnm hn9;exact ⟨hnm,hn9⟩
     obtain ⟨rfl,ht9⟩:=htk;have c3:(Jsp v 0 1=(v.length:Int))=True:=eq_true hnx;(refine bgo Tryz.func5 ?_;simp only [go_sem,simprocAttr,Jqb,hg0,c0,c2,c9,not_true_eq_false]);(repeat' (first | ((refine Jqa (hN) ?_);simp only [go_sem,simprocAttr,Jqb,c3,not_true_eq_false]) | fail));have hB:∀ b:Bool,(b=true ↔ okR t)→b=Jrp v:=by
      intro b hb;rw [Bool.eq_iff_iff,hb,Jrz,ht,Jvu];exact ⟨fun h=>⟨h,ht9⟩,fun h=>h.1⟩
     refine SWP.loop (fun x:Nat×RF=>⟨Ba 87 [(0,.p (.sl (rowL v))),(3,.p (.int .i64 x.1))],[]⟩) (fun x=>v.drop x.1=x.2.enc∧x.1+x.2.enc.length=v.length∧(okR t ↔ okRF x.2)) (fun x=>v.length - x.1) (0,.cons [] t .nil) Jqc ⟨by rw [Jqf,Jq5,List.append_nil,List.drop_zero,ht],by rw [Jqf,Jq5,List.append_nil,ht];simp,by rw [Jrv];exact ⟨fun h=>⟨h,Jsc⟩,fun h=>h.1⟩⟩ ?_;rintro ⟨i,F⟩ ⟨h1,h2,h3⟩;simp only at h1 h2 h3
     match F,h1,h2,h3 with
     | .nil,h1,h2,h3 =>
      rw [Jq5] at h2;have c4:((i:Int)<(v.length:Int))=False:=eq_false (by simp at h2;omega);(refine lws ?_;simp only [go_sem,simprocAttr,Jqb,decide_false,c4]);exact hB true (by rw [h3];simp [Jsc])
     | .cons nm' (.mk k s g e kids) r,h1,h2,h3 =>
      rw [Jqf,Jqi] at h1 h2;simp only [List.length_append,List.length_cons] at h2;have c4:((i:Int)<(v.length:Int))=True:=eq_true omg;have hga:=Jrr h1;rw [Jrd] at hga;have w1:=wj1 (i:=i) omg;rw [Jz5] at h3;have hmem:(⟨k,kids.len,nm',s,g,e⟩:YRow)∈v:=by
       have:(⟨k,kids.len,nm',s,g,e⟩:YRow)∈v.drop i:=by rw [h1];simp
       exact List.mem_of_mem_drop this
      have hfn:=hf _ hmem;have hpl:=J68 k kids.len nm' s g e hfn.s hfn.c;have hri:=J76 v i nm' k s g e kids r.enc omg (by rw [h1,Jqi]) fun n hn=>(hf n hn).name
      have hcont:(okR t ↔ okRF (kids.app r))→∃ y:Nat×RF,(v.drop y.1=y.2.enc∧y.1+y.2.enc.length=v.length∧(okR t ↔ okRF y.2))∧v.length - y.1<v.length - i∧y=(i+1,kids.app r):=fun h =>
       ⟨(i+1,kids.app r),⟨by simp only;rw [← List.drop_drop,h1,Jqh];rfl,by simp only;rw [Jqh,List.length_append];omega,h⟩,by simp only;omega,rfl⟩
      by_cases hn1:Jqu k s g e kids.len
      ·rw [decide_eq_true hn1] at hpl;by_cases hk1:Jra k kids.list
       ·rw [← J58 hk1] at hri;by_cases h78:k=7∨k=8
        ·have hm1:kids.len=1:=by
          have:=hn1;rcases h78 with rfl | rfl <;> simp [Jqu] at this <;> omega
         obtain ⟨nm0,t0,kr,rfl⟩:∃ nm t0 kr,kids=.cons nm t0 kr:=by
          cases kids with
          | nil=>simp [RF.len] at hm1
          | cons a b c=>exact ⟨a,b,c,rfl⟩
         have hd1:v.drop (i+1)=t0.enc nm0 ++ (kr.enc ++ r.enc):=by
          rw [← List.drop_drop,h1,Jqf];simp
         have hP:=Jxg s hfn.s;have hLd:=J8j (Je s).1 t0 v (i+1) nm0 _ omg (by have:=(Jwi s).1;omega) hd1;have hsp:=Jud (p:=(Je s).1) (t:=t0) (nm:=nm0);cases hlo:Jss t0 (Je s).1 with
         | none =>
          rw [hlo] at hsp hLd;have hnl:¬ Js3 k s (RF.cons nm0 t0 kr).list:=fun h=>by
           obtain ⟨u,hu,_⟩:=h h78 (nm0,t0) rfl;simp only at hsp hu;rw [hsp] at hu;cases hu
          simp only [Jwh] at hLd;rcases h78 with rfl | rfl
          ·(refine lws ?_;simp only [go_sem,simprocAttr,Jqb,decide_true,c4,hga]);(repeat' (first | ((first | (refine Jqa (hpl) ?_)|(refine Jqa (hri) ?_)|(refine Jqa (hP) ?_)|(refine Jqa (hLd) ?_));simp only [go_sem,simprocAttr,decide_true,hga,w1,Bool.not_true]) | fail));exact hB false (by rw [h3];simp [hnl])
          ·(refine lws ?_;simp only [go_sem,simprocAttr,Jqb,decide_true,c4,hga]);(repeat' (first | ((first | (refine Jqa (hpl) ?_)|(refine Jqa (hri) ?_)|(refine Jqa (hP) ?_)|(refine Jqa (hLd) ?_));simp only [go_sem,simprocAttr,decide_true,hga,w1,Bool.not_true]) | fail));exact hB false (by rw [h3];simp [hnl])
         | some o =>
          rw [hlo] at hsp hLd;obtain ⟨u,nm2,b,hu,hdo⟩:=hsp;have ho:o≤(t0.enc nm0).length:=by
           have hpos:=Jr1 u nm2;have:=congrArg List.length hdo;rw [List.length_drop,List.length_append] at this;omega
          have hdu:v.drop (i+1+o)=u.enc nm2 ++ (b ++ (kr.enc ++ r.enc)):=by
           rw [← List.drop_drop,hd1,List.drop_append_of_le_length ho,hdo,List.append_assoc]
          obtain ⟨n4,s4,g4,e4,hgu⟩:=Jyu hdu;simp only [Jwh] at hLd;have c7:(((i+1+o:Nat):Int)<0)=False:=eq_false omg;by_cases hu1:u.kind=1
          ·have c8:=eq_true hu1;have hyl:Js3 k s (RF.cons nm0 t0 kr).list:=fun _ p hp=>by cases hp;exact ⟨u,hu,hu1⟩
           obtain ⟨y,p1,p2,rfl⟩:=hcont (h3.trans ⟨fun h=>h.2.2.2,fun h=>⟨hn1,hk1,hyl,h⟩⟩);rcases h78 with rfl | rfl
           ·(refine lws ?_;simp only [go_sem,simprocAttr,Jqb,decide_true,c4,hga]);(repeat' (first | ((first | (refine Jqa (hpl) ?_)|(refine Jqa (hri) ?_)|(refine Jqa (hP) ?_)|(refine Jqa (hLd) ?_));simp only [go_sem,simprocAttr,decide_false,not_true_eq_false,hga,w1,c7,c8,hgu,Bool.not_true]) | fail));exact ⟨_,p1,p2,Jqc⟩
           ·(refine lws ?_;simp only [go_sem,simprocAttr,Jqb,decide_true,c4,hga]);(repeat' (first | ((first | (refine Jqa (hpl) ?_)|(refine Jqa (hri) ?_)|(refine Jqa (hP) ?_)|(refine Jqa (hLd) ?_));simp only [go_sem,simprocAttr,decide_false,not_true_eq_false,hga,w1,c7,c8,hgu,Bool.not_true]) | fail));exact ⟨_,p1,p2,Jqc⟩
          ·have c8:=eq_false hu1;have hnl:¬ Js3 k s (RF.cons nm0 t0 kr).list:=fun h=>by
            obtain ⟨u',hu',hk'⟩:=h h78 (nm0,t0) rfl;simp only at hu';rw [hu] at hu';cases hu';exact hu1 hk'
           rcases h78 with rfl | rfl
           ·(refine lws ?_;simp only [go_sem,simprocAttr,Jqb,decide_true,c4,hga]);(repeat' (first | ((first | (refine Jqa (hpl) ?_)|(refine Jqa (hri) ?_)|(refine Jqa (hP) ?_)|(refine Jqa (hLd) ?_));simp only [go_sem,simprocAttr,decide_false,hga,w1,c7,c8,hgu,Bool.not_true]) | fail));exact hB false (by rw [h3];simp [hnl])
           ·(refine lws ?_;simp only [go_sem,simprocAttr,Jqb,decide_true,c4,hga]);(repeat' (first | ((first | (refine Jqa (hpl) ?_)|(refine Jqa (hri) ?_)|(refine Jqa (hP) ?_)|(refine Jqa (hLd) ?_));simp only [go_sem,simprocAttr,decide_false,hga,w1,c7,c8,hgu,Bool.not_true]) | fail));exact hB false (by rw [h3];simp [hnl])
        ·have c7:(k=7)=False:=eq_false (fun h=>h78 (.inl h));have c8:(k=8)=False:=eq_false (fun h=>h78 (.inr h));have hyl:Js3 k s kids.list:=fun h=>absurd h h78
         obtain ⟨y,p1,p2,rfl⟩:=hcont (h3.trans ⟨fun h=>h.2.2.2,fun h=>⟨hn1,hk1,hyl,h⟩⟩);(refine lws ?_;simp only [go_sem,simprocAttr,Jqb,decide_true,c4,hga]);(repeat' (first | ((first | (refine Jqa (hpl) ?_)|(refine Jqa (hri) ?_));simp only [go_sem,simprocAttr,hga,w1,c7,c8,Bool.not_true]) | fail));exact ⟨_,p1,p2,Jqc⟩
       ·rw [← J6g hk1] at hri;(refine lws ?_;simp only [go_sem,simprocAttr,Jqb,decide_true,c4,hga]);(repeat' (first | ((first | (refine Jqa (hpl) ?_)|(refine Jqa (hri) ?_));simp only [go_sem,simprocAttr,Bool.not_true,Bool.not_false]) | fail));exact hB false (by rw [h3];simp [hk1])
      ·rw [decide_eq_false hn1] at hpl;(refine lws ?_;simp only [go_sem,simprocAttr,Jqb,decide_true,c4,hga]);(repeat' (first | ((refine Jqa (hpl) ?_);simp only [go_sem,simprocAttr,Bool.not_false]) | fail));exact hB false (by rw [h3];simp [hn1])
    ·have c3:(Jsp v 0 1=(v.length:Int))=False:=eq_false hnx;have hb:=Jrl (v:=v) fun h=>hnx (J2c h)
     rw [← hb];(refine bgo Tryz.func5 ?_;simp only [go_sem,simprocAttr,Jqb,hg0,c0,c2,c9,not_true_eq_false]);(repeat' (first | ((refine Jqa (hN) ?_);simp only [go_sem,simprocAttr,Jqb,c3,not_false_eq_true]) | fail))
  ·have c2:=eq_false hnm;have hb:=Jrl (v:=v) (by
    rintro ⟨t,_,_,h⟩;cases t with
    | mk k s g e kids =>
     rw [Jqi,← hvv] at h;have:=(List.cons.inj h).1;rw [this] at hnm;exact hnm rfl)
   rw [← hb];(refine bgo Tryz.func5 ?_;simp only [go_sem,simprocAttr,Jqb,hg0,c0,c2,not_false_eq_true])
   skip
end Go.LX
namespace Go.LX
open Go
def incR:List UInt8→List UInt8
 | []=>[]
 | c :: r=>if c=57 then 48 :: incR r else (c+1) :: r
def decR:List UInt8→List UInt8
 | []=>[]
 | c :: r=>if c=48 then 57 :: decR r else (c - 1) :: r
def Jvh (s:List UInt8):List UInt8:=(incR (48 :: s).reverse).reverse
def Juf (s:List UInt8):List UInt8:=(decR s.reverse).reverse
def Jqy (n:Node) (e:Int):List UInt8:=n.s ++ List.replicate (n.e - e).toNat 48
def topR (n:Node) (above:Bool):Int:=if (n.neg != above)=false∧n.s=[49] then (n.s.length:Int)+n.e - 1 else n.s.length+n.e
def Jqm (n:Node) (above:Bool):Int:=max (topR n above - 100) (-1000)
def Jth (n:Node) (above:Bool):List UInt8:=if (n.neg != above)=true then Jvh (Jqy n (Jqm n above)) else Juf (Jqy n (Jqm n above))
def Jri (n:Node) (above:Bool):Option Node :=
 if n.s=[] then some ⟨3,0,[],[49],!above,-1000⟩
 else if (make n.neg (Jth n above) (Jqm n above)).2=0 then some (make n.neg (Jth n above) (Jqm n above)).1 else none
def numC (a:Int×Node):List Node:=if a.2.kind=3 then a.2 :: ((Jri a.2 true).toList ++ (Jri a.2 false).toList) else []
def strC (a:Int×Node):List Node:=if a.2.kind=4 then [a.2,⟨4,0,[],a.2.s ++ [0],false,0⟩] else []
def Juy (k:Int):Node:=⟨k,0,[],[],false,0⟩
def Jsu (l:List (Int×Node)):List Node:=[Juy 0,Juy 1,Juy 2,Juy 3] ++ l.flatMap numC
def Jsi (l:List (Int×Node)):List Node:=Jsu l ++ [Juy 4] ++ l.flatMap strC
theorem J2x:∀ s,(incR s).length=s.length
 | []=>rfl
 | c :: r=>by unfold incR;split <;> simp [J2x r]
theorem J3i:∀ s,(decR s).length=s.length
 | []=>rfl
 | c :: r=>by unfold decR;split <;> simp [J3i r]
theorem J0l (s:List UInt8):(Jvh s).length=s.length+1:=by simp [Jvh,J2x]
theorem J7x (s:List UInt8):(Juf s).length=s.length:=by simp [Juf,J3i]
theorem J9h {g:Bool} {s:List UInt8} {e:Int} (h:(make g s e).2=0):(make g s e).1.s.length≤100∧(make g s e).1.name=[]∧-1000≤(make g s e).1.e∧(make g s e).1.e≤1000:=by
 unfold make at h ⊢;split
 ·rename_i h1;rw [if_pos h1] at h;cases h
 ·rename_i h1;rw [if_neg h1] at h;split
  ·exact ⟨by simp [node0],rfl,by simp [node0],by simp [node0]⟩
  ·rename_i h2;rw [if_neg h2] at h;split
   ·rename_i h3;rw [if_pos h3] at h;cases h
   ·rename_i h3;rw [if_neg h3] at h;split
    ·rename_i h4;rw [if_pos h4] at h;cases h
    ·rename_i h4;rw [if_neg h4] at h;simp only at h ⊢;split
     ·rename_i h5;rw [if_pos h5] at h;cases h
     ·rename_i h5;rw [if_neg h5] at h;split
      ·rename_i h6;rw [if_pos h6] at h;cases h
      ·rename_i h6;rw [if_neg h6] at h;split
       ·rename_i h7;rw [if_pos h7] at h;cases h
       ·rename_i h7;refine ⟨by simp only;omega,rfl,by simp only;omega,by simp only;omega⟩
structure CandFit (n:Node):Prop where
 s:n.s.length≤1000
 name:n.name=[]
 e0:-1000≤n.e
 e1:n.e≤1000
theorem Jy8 {n m:Node} {a:Bool} (h:Jri n a=some m):CandFit m:=by
 unfold Jri at h;split at h
 ·cases h;exact ⟨by simp,rfl,by simp,by simp⟩
 ·split at h
  ·rename_i h2;cases h;obtain ⟨g1,g2,g3,g4⟩:=J9h h2;exact ⟨by omega,g2,g3,g4⟩
  ·cases h
theorem J85 {l:List (Int×Node)} (hl:∀ a∈l,CandFit a.2∧a.2.s.length≤500) {n:Node} (h:n∈Jsi l):CandFit n:=by
 have hb:∀ k,CandFit (Juy k):=fun k=>⟨by simp [Juy],rfl,by simp [Juy],by simp [Juy]⟩
 simp only [Jsi,Jsu,List.mem_append,List.mem_cons,List.not_mem_nil,or_false,List.mem_flatMap] at h;rcases h with (((rfl | rfl | rfl | rfl) | ⟨a,ha,h⟩) | rfl) | ⟨a,ha,h⟩
 ·exact hb 0
 ·exact hb 1
 ·exact hb 2
 ·exact hb 3
 ·unfold numC at h;split at h
  ·simp only [List.mem_cons,List.mem_append,Option.mem_toList] at h;rcases h with rfl | h | h
   ·exact (hl a ha).1
   ·exact Jy8 h
   ·exact Jy8 h
  ·cases h
 ·exact hb 4
 ·unfold strC at h;split at h
  ·simp only [List.mem_cons,List.not_mem_nil,or_false] at h;rcases h with rfl | rfl
   ·exact (hl a ha).1
   ·have:=(hl a ha).2;exact ⟨by simp;omega,rfl,by simp,by simp⟩
  ·cases h
end Go.LX
namespace Go.LX
open Go Go.Proofs Go.RowKit
structure BytesOwn (w wr:World) (l:List UInt8):Prop where
 below:Below w.heap.size w wr
 cell:∀ (k:Nat) (c:UInt8),l[k]? = some c→wr.cell? ⟨w.heap.size,k,none⟩=some (.int .u8 (c.toNat:Int))
 soft:∀ k,k<l.length→wr.frozen? ⟨w.heap.size,k,none⟩=false
theorem BytesOwn.set {w wr:World} {l:List UInt8} (h:BytesOwn w wr l) {k:Nat} (hk:k<l.length) (c:UInt8) (v:Int) (hv:v=(c.toNat:Int)):BytesOwn w (wr.setCell ⟨w.heap.size,k,none⟩ (.int .u8 v)) (l.set k c) where
 below:=h.below.setCell (Nat.le_refl _) _
 cell i d hi:=by
  subst hv;by_cases hik:i=k
  ·subst hik;rw [List.getElem?_set_self hk] at hi;cases hi;exact World.cell?_setCell_same _ _ _ (h.cell i l[i] (List.getElem?_eq_getElem hk))
  ·rw [List.getElem?_set_ne (Ne.symm hik)] at hi;rw [World.cell?_setCell_other _ _ _ _ (by intro e;cases e;exact hik rfl)];exact h.cell i d hi
 soft i hi:=by
  rw [World.frozen?_setCell];exact h.soft i (by simpa using hi)
theorem BytesOwn.bytes {w wr:World} {l:List UInt8} (h:BytesOwn w wr l):Lib.Bytes wr w.heap.size 0 ⟨l.toArray⟩:=by
 intro i hi;have hi':i<l.length:=hi;rw [Nat.zero_add];exact h.cell i l[i] (List.getElem?_eq_getElem hi')
def Jso (x y:UInt8) (pre:List UInt8) (c:UInt8) (j r:Nat):List UInt8:=pre ++ c :: (List.replicate (r - j) x ++ List.replicate j y)
end Go.LX
namespace Go.LX
open Go
theorem Jvr (x y:UInt8) (f:UInt8→UInt8) (g:List UInt8→List UInt8) (h0:g []=[]) (h1:∀ c r,g (c :: r)=if c=x then y :: g r else f c :: r) :
  ∀ l:List UInt8,(∃ c∈l,c≠x)→∃ pre c r,l.reverse=Jso x y pre c 0 r∧c≠x∧c∈l∧(g l).reverse=Jso x y pre (f c) r r
 | [],⟨_,h,_⟩=>by simp at h
 | a :: t,⟨d,hd,hx⟩=>by
  by_cases ha:a=x
  ·subst ha;have hd':d∈t:=by
    rcases List.mem_cons.1 hd with h | h
    ·exact absurd h hx
    ·exact h
   obtain ⟨pre,c,r,e1,e2,e3,e4⟩:=Jvr a y f g h0 h1 t ⟨d,hd',hx⟩;refine ⟨pre,c,r+1,?_,e2,List.mem_cons_of_mem _ e3,?_⟩
   ·rw [List.reverse_cons,e1];simp [Jso,List.replicate_succ']
   ·rw [h1,if_pos rfl,List.reverse_cons,e4];simp [Jso,List.replicate_succ']
  ·refine ⟨t.reverse,a,0,by simp [Jso],ha,by simp,?_⟩;rw [h1,if_neg ha];simp [Jso]
theorem J5j (s:List UInt8) (h:∃ c∈s,c≠48):∃ pre c r,s=Jso 48 57 pre c 0 r∧c≠48∧c∈s∧Juf s=Jso 48 57 pre (c - 1) r r:=by
 obtain ⟨d,hd,hx⟩:=h;obtain ⟨pre,c,r,h1,h2,h3,h4⟩:=Jvr 48 57 (fun c=>c - 1) decR rfl (fun _ _=>rfl) s.reverse ⟨d,by simpa using hd,hx⟩;exact ⟨pre,c,r,by simpa using h1,h2,by simpa using h3,h4⟩
theorem J44 (s:List UInt8):∃ pre c r,48 :: s=Jso 57 48 pre c 0 r∧c≠57∧c∈48 :: s∧Jvh s=Jso 57 48 pre (c+1) r r:=by
 obtain ⟨pre,c,r,h1,h2,h3,h4⟩:=Jvr 57 48 (fun c=>c+1) incR rfl (fun _ _=>rfl) (48 :: s).reverse ⟨48,by simp,by decide⟩;exact ⟨pre,c,r,by simpa using h1,h2,List.mem_reverse.1 h3,h4⟩
end Go.LX
namespace Go.LX
open Go Go.RowKit Go.Proofs
attribute [local irreducible] Al SWP Bi
def besL (o:Option Node):L:=match o with
 | some m=>.tup [.agg [.int .i64 m.kind,.int .i64 m.many,.str m.name,.str m.s,.bool m.neg,.int .i64 m.e],.bool true]
 | none=>.tup [.agg [.int .i64 0,.int .i64 0,.str [],.str [],.bool false,.int .i64 0],.bool false]
theorem J25 (n:Node) (e:Int):(Jqy n e).length=n.s.length+(n.e - e).toNat:=by simp [Jqy]
theorem J4g {l:List (Int×Node)} {i:Nat} {a:Int×Node} (h:l[i]? = some a):Jsu (l.take (i+1))=Jsu (l.take i) ++ numC a:=by
 unfold Jsu;rw [List.take_add_one,h];simp
theorem J9p (a:Int×Node):(numC a).length≤3:=by
 unfold numC;split
 ·cases Jri a.2 true <;> cases Jri a.2 false <;> simp
 ·simp
theorem J0k (l:List (Int×Node)):(Jsu l).length≤4+3 * l.length:=by
 unfold Jsu;simp only [List.length_append,List.length_cons,List.length_nil];have:∀ l:List (Int×Node),(l.flatMap numC).length≤3 * l.length:=by
  intro l
  induction l with
  | nil=>simp
  | cons a l ih=>have:=J9p a;simp only [List.flatMap_cons,List.length_append,List.length_cons];omega
 have:=this l;omega
def Jsb (l:List (Int×Node)) (i:Nat):List Node:=Jsu l ++ [Juy 4] ++ (l.take i).flatMap strC
theorem J5v {l:List (Int×Node)} {i:Nat} {a:Int×Node} (h:l[i]? = some a):Jsb l (i+1)=Jsb l i ++ strC a:=by
 unfold Jsb;rw [List.take_add_one,h];simp
theorem J8z (a:Int×Node):(strC a).length≤2:=by unfold strC;split <;> simp
theorem Jz8 (l:List (Int×Node)) (i:Nat):(Jsb l i).length≤5+3 * l.length+2 * i:=by
 unfold Jsb;have h1:=J0k l;have:∀ l:List (Int×Node),(l.flatMap strC).length≤2 * l.length:=by
  intro l
  induction l with
  | nil=>simp
  | cons a l ih=>have:=J8z a;simp only [List.flatMap_cons,List.length_append,List.length_cons];omega
 have h2:=this (l.take i);have h3:(l.take i).length≤i:=List.length_take_le _ _;simp only [List.length_append,List.length_cons,List.length_nil];omega
theorem J60 {n:Node} (h:Jqk n) (hs:n.s.length≤500):CandFit n:=by
 obtain ⟨h1,h2,h3⟩:=h;unfold G3 at h3;by_cases g1:n.kind=0∨n.kind=1∨n.kind=2
 ·rw [if_pos g1] at h3;exact ⟨by omega,h2,by omega,by omega⟩
 ·rw [if_neg g1] at h3;by_cases g2:n.kind=3
  ·rw [if_pos g2] at h3;obtain ⟨_,_,_,k1,k2,_⟩:=h3;exact ⟨by omega,h2,k1,k2⟩
  ·rw [if_neg g2] at h3;by_cases g3:n.kind=4
   ·rw [if_pos g3] at h3;exact ⟨by omega,h2,by omega,by omega⟩
   ·rw [if_neg g3] at h3;by_cases g4:n.kind=5∨n.kind=6
    ·omega
    ·rw [if_neg g4] at h3;exact h3.elim
theorem J7n {c:List Node} {p:Node→Bool} {i:Nat} {n:Node} (h:c[i]? = some n):(c.drop i).find? p=if p n=true then some n else (c.drop (i+1)).find? p:=by
 have hi:=(List.getElem?_eq_some_iff.1 h).1;rw [List.drop_eq_getElem_cons hi,List.find?_cons];have:c[i]=n:=by rw [List.getElem?_eq_getElem hi] at h;exact Option.some.inj h
 rw [this];cases p n <;> simp
theorem J69 (l:List (Int×Node)):(Jsi l).length≤5+5 * l.length:=by
 have h:=Jz8 l l.length;have hR:Jsb l l.length=Jsi l:=by unfold Jsb Jsi;rw [List.take_length]
 rw [hR] at h;omega
def Jzb (l:List YRow):List (Int×Node):=l.map fun r=>(r.n,r.c)
def Jq0 (v:List YRow) (i m:Nat):List (Int×Node):=Jzb ((v.drop (i+1)).take m)
theorem Jun {v:List YRow} {i m:Nat} (h:i+m<v.length):(Jq0 v i m).length=m:=by
 simp [Jq0,Jzb];omega
theorem Jw8 {v:List YRow} {i m j:Nat} {q:YRow} (h:v[i+1+j]? = some q) (hj:j<m):(Jq0 v i m)[j]? = some (q.n,q.c):=by
 simp only [Jq0,Jzb,List.getElem?_map,List.getElem?_take,if_pos hj,List.getElem?_drop,h,Option.map_some]
theorem J0u:∀ (N:Nat) (F:RF),F.enc.length≤N→okRF F→∀ (i:Nat) (r:YRow),F.enc[i]? = some r→r.kind=1 →
  ∃ m:Nat,r.many=(m:Int)∧i+m<F.enc.length∧1≤r.n∧r.n≤31∧∀ j q,j<m→F.enc[i+1+j]? = some q→Jrg q.n q.c
 | 0,F,hN,_,i,r,hr,_=>by
  have:=(List.getElem?_eq_some_iff.1 hr).1;omega
 | N+1,.nil,hN,_,i,r,hr,_=>by rw [Jq5] at hr;simp at hr
 | N+1,.cons nm (.mk k s n c kids) rest,hN,hok,i,r,hr,hk=>by
  rw [Jz5] at hok;obtain ⟨h1,h2,h3,h4⟩:=hok;have henc:(RF.cons nm (.mk k s n c kids) rest).enc=⟨k,kids.len,nm,s,n,c⟩ :: (kids.app rest).enc:=by
   rw [Jqf,Jqi,Jqh];rfl
  rw [henc] at hr hN ⊢;cases i with
  | succ i =>
   rw [List.getElem?_cons_succ] at hr;obtain ⟨m,a1,a2,a3,a4,a5⟩:=J0u N (kids.app rest) (by simp only [List.length_cons] at hN;omega) h4 i r hr hk;refine ⟨m,a1,by simp only [List.length_cons];omega,a3,a4,fun j q hj hq=>?_⟩;rw [show i+1+1+j=(i+1+j)+1 by omega,List.getElem?_cons_succ] at hq;exact a5 j q hj hq
  | zero =>
   rw [List.getElem?_cons_zero] at hr;cases hr;simp only at hk ⊢;subst hk;have hkids:∀ p∈kids.list,p.2.kind=9:=fun p hp=>((h2.1 p hp).1).2 rfl
   rw [Jui] at h4;have hokk:=Jv1.1 h4.1;have hleaf:Jyj kids.list:=by
    intro p hp;have ho:=hokk p hp;have h9:=hkids p hp;obtain ⟨nm',⟨k',s',n',c',kids'⟩⟩:=p;simp only [RT.kind,RT.kids] at h9 ⊢;rw [Jsv] at ho;subst h9;have hz:kids'.len=0:=by have:=ho.1;unfold Jqu at this;simp at this;omega
    cases kids' with
    | nil=>rfl
    | cons a b c=>simp [RF.len] at hz
   unfold Jqu at h1;simp at h1;have hll:=Jrb kids;have hel:=Jy1 hleaf;refine ⟨kids.len,rfl,?_,h1.1,h1.2.1,fun j q hj hq=>?_⟩
   ·rw [Jqh];simp only [List.length_cons,List.length_append];omega
   ·rw [Nat.zero_add,Nat.add_comm 1 j,List.getElem?_cons_succ,Jqh,List.getElem?_append_left omg] at hq;obtain ⟨p,hp⟩:∃ p,kids.list[j]? = some p:=⟨_,List.getElem?_eq_getElem omg⟩
    rw [Jxz hleaf hp] at hq;cases hq;have ho:=hokk p (List.mem_of_getElem? hp);have h9:=hkids p (List.mem_of_getElem? hp);obtain ⟨nm',⟨k',s',n',c',kids'⟩⟩:=p;rw [Jsv] at ho;simp only [RT.kind] at h9;subst h9;have:=ho.1;unfold Jqu at this;simp at this;exact this.2.2
noncomputable def Jtf (v:List YRow) (i:Nat):Bool:=match v[i]? with
 | some r=>if r.kind=1 then ((Jsi (Jq0 v i r.many.toNat)).find? (Jr2 r.n (Jq0 v i r.many.toNat))).isSome else true
 | none=>true
noncomputable def Jt3 (v:List YRow):Bool:=Jrp v && allF (Jtf v) v.length 0
def Jwz (r:YRow):Bool:=decide (r.s.length≤100) && (decide (r.name.length≤100) && decide (r.c.s.length≤100))
def Jsr (v:List YRow) (m:Nat):Bool:=decide (v.length≤m) && v.all Jwz
structure ERow (r:YRow):Prop where
 s:r.s.length≤9223372036854775807
 name:r.name.length≤9223372036854775807
 cs:r.c.s.length≤9223372036854775807
 e0:-9223372036854775808≤r.c.e
 e1:r.c.e≤9223372036854775807
theorem Ka5 (v:List YRow) (m:Nat) (hm':m≤1000) (hv:v.length≤9223372036854775807) (hf:∀ n∈v,ERow n):Det cx 4 [.p (.sl (rowL v)),.p (.int .i64 m)] [] (.p (.bool (Jsr v m))) []:=by
 (refine bgo Tryz.func4 ?_;simp only [go_sem,simprocAttr]);refine SWP.loop (fun i:Nat=>⟨Ba 43 [(0,.p (.sl (rowL v))),(1,.p (.int .i64 m)),(5,.p (.int .i64 i))],[]⟩) (fun i=>i≤v.length∧i≤m∧(v.take i).all Jwz=true) (fun i=>v.length - i) 0 Jqc ⟨Nat.zero_le _,Nat.zero_le _,rfl⟩ ?_;rintro i ⟨h1,h2,h3⟩;by_cases hi:¬ i<v.length
 ·have c1:((i:Int)<(v.length:Int))=False:=eq_false omg;rw [List.take_of_length_le omg] at h3;rw [show Jsr v m=true by unfold Jsr;rw [h3,decide_eq_true omg];rfl];(refine lws ?_;simp only [go_sem,simprocAttr,Jqb,c1])
  skip
 ·have hi:=Decidable.not_not.1 hi;have c1:((i:Int)<(v.length:Int))=True:=eq_true omg;obtain ⟨n,hn⟩:∃ n,v[i]? = some n:=⟨_,List.getElem?_eq_getElem hi⟩
  have hg:=Jse hn;have hfn:=hf n (List.mem_of_getElem? hn);obtain ⟨f1,f2,f3,f4,f5⟩:=hfn;have w1:=wj1 (i:=i) omg;have hnot:Jwz n=false→Jsr v m=false:=fun h=>by
   unfold Jsr;rw [Bool.and_eq_false_iff];exact .inr (List.all_eq_false.2 ⟨n,List.mem_of_getElem? hn,by rw [h];simp⟩)
  by_cases him:(m:Int)≤(i:Int)
  ·have c2:=eq_true him;rw [show Jsr v m=false by unfold Jsr;rw [decide_eq_false omg];rfl];(refine lws ?_;simp only [go_sem,simprocAttr,Jqb,c1,c2])
   skip
  ·have c2:=eq_false him;(refine lws ?_;simp only [go_sem,simprocAttr,Jqb,c1,c2,hg,w1]);(repeat' (apply iteI <;> intro h))
   all_goals first
    | (
     refine ⟨i+1,⟨by omega,by omega,?_⟩,by omega,Jqc⟩;rw [List.take_add_one,hn,List.all_append,h3];simp [Jwz];omega)
    | (exact (hnot (by unfold Jwz;simp;omega)).symm)
def Jv8 (nm:List UInt8):List YRow→List YRow
 | []=>[]
 | r :: rs=>⟨r.kind,r.many,nm,r.s,r.n,r.c⟩ :: rs
def Jux (ns:List (List UInt8)) (ls:List (List YRow)) (i:Nat):List YRow:=if i<ns.length then Jv8 (ns.getD i []) (ls.getD i []) else ls.getD i []
def Jq1 (ns:List (List UInt8)) (ls:List (List YRow)):Nat→List YRow
 | 0=>[]
 | i+1=>Jq1 ns ls i ++ Jux ns ls i
def Jvk (y:YRow) (ns:List (List UInt8)) (ls:List (List YRow)):List YRow:=⟨y.kind,ls.length,y.name,y.s,y.n,y.c⟩ :: Jq1 ns ls ls.length
def Jq3 (ls:List (List YRow)):List (List PV):=ls.map fun v=>[.sl (rowL v)]
def Jqr (ns:List (List UInt8)):List (List PV):=ns.map fun s=>[.str s]
@[simp] theorem Jrj (ls:List (List YRow)):(Jq3 ls).length=ls.length:=by simp [Jq3]
@[simp] theorem Jrs (ns:List (List UInt8)):(Jqr ns).length=ns.length:=by simp [Jqr]
theorem Jtc {ls:List (List YRow)} {i:Nat} {v:List YRow} (h:ls[i]? = some v):(Jq3 ls)[i]? = some [.sl (rowL v)]:=by simp [Jq3,h]
theorem Jvw {ns:List (List UInt8)} {i:Nat} {v:List UInt8} (h:ns[i]? = some v):(Jqr ns)[i]? = some [.str v]:=by simp [Jqr,h]
theorem J0n (nm:List UInt8) (l:List YRow):(Jv8 nm l).length=l.length:=by cases l <;> rfl
theorem J0j (ns:List (List UInt8)) (ls:List (List YRow)) (i:Nat):(Jux ns ls i).length=(ls.getD i []).length:=by
 unfold Jux;split
 ·rw [J0n]
 ·rfl
theorem J92 (y:YRow) (ns:List (List UInt8)) (ls:List (List YRow)) (hl:ls.length≤10000) (hs:∀ i,i≤ls.length→(Jq1 ns ls i).length≤900000) (he:∀ v∈ls,v.length≤900000):Det cx 9 [.p (.agg [.int .i64 y.kind,.int .i64 y.many,.str y.name,.str y.s,.int .i64 y.n,.int .i64 y.c.kind,.int .i64 y.c.many,.str y.c.name,.str y.c.s,.bool y.c.neg,.int .i64 y.c.e]),.p (.sl (Jqr ns)),.p (.sl (Jq3 ls))] [] (.p (.sl (rowL (Jvk y ns ls)))) []:=by
 generalize hhd:(⟨y.kind,ls.length,y.name,y.s,y.n,y.c⟩:YRow)=hd;have hst:rowL (hd :: Jq1 ns ls 0)=[[.int .i64 y.kind,.int .i64 ls.length,.str y.name,.str y.s,.int .i64 y.n,.int .i64 y.c.kind,.int .i64 y.c.many,.str y.c.name,.str y.c.s,.bool y.c.neg,.int .i64 y.c.e]]:=by rw [← hhd];rfl
 have hst0:(Jq1 ns ls 0).length=0:=rfl;have hmd:Jvk y ns ls=hd :: Jq1 ns ls ls.length:=by rw [← hhd];rfl
 rw [hmd];(refine bgo Tryz.func9 ?_;simp only [go_sem,simprocAttr,Jrj]);refine SWP.loop (fun i:Nat=>⟨Ba 56 [(1,.p (.sl (Jqr ns))),(2,.p (.sl (Jq3 ls))),(7,.own 15 0 ((Jq1 ns ls i).length+1)),(8,.p (.int .i64 i))],[(15,.row 25 11 (rowL (hd :: Jq1 ns ls i)))]⟩) (fun i=>i≤ls.length) (fun i=>ls.length - i) 0 (by rw [hst,hst0];exact Jqc) (Nat.zero_le _) ?_;rintro i hi;have hln:=hs i hi;have hpl:(rowL (hd :: Jq1 ns ls i)).length=(Jq1 ns ls i).length+1:=by rw [Jqb];rfl
 have hle0:((Jq1 ns ls i).length+1≤(Jq1 ns ls i).length+1)=True:=eq_true (Nat.le_refl _);by_cases hlt:i<ls.length
 ·have c1:((i:Int)<(ls.length:Int))=True:=eq_true omg;obtain ⟨v,hq⟩:∃ v,ls[i]? = some v:=⟨_,List.getElem?_eq_getElem hlt⟩
  have hg:=Jtc hq;have hv:=he v (List.mem_of_getElem? hq);have w1:IntKind.i64.wrap ((i:Int)+1)=((i+1:Nat):Int):=by rw [Aa omg omg];omega
  have e1:rowL (hd :: (Jq1 ns ls i ++ v))=rowL (hd :: Jq1 ns ls i) ++ rowL v:=by rw [← Jwj];rfl
  have e2:(Jq1 ns ls i ++ v).length+1=(Jq1 ns ls i).length+1+v.length:=by rw [List.length_append];omega
  by_cases hin:i<ns.length
  ·have c0:((i:Int)<(ns.length:Int))=True:=eq_true omg;obtain ⟨nm,hnm⟩:∃ nm,ns[i]? = some nm:=⟨_,List.getElem?_eq_getElem hin⟩
   have hgn:=Jvw hnm;have hstep:Jq1 ns ls (i+1)=Jq1 ns ls i ++ Jv8 nm v:=by
    rw [Jq1,Jux,if_pos hin];simp [List.getD_eq_getElem?_getD,hq,hnm]
   cases v with
   | nil =>
    rw [show Jv8 nm []=[] from rfl] at hstep;(refine lws ?_;simp only [go_sem,simprocAttr,Jrj,Jrs,c1,c0,hg,hpl,w1,Jqb]);(repeat' (first | (refine And.intro (by first | (simp;done)|(simp;omega)|(intro q hq;exact Jre _ q hq)) ?_)|(refine Jqd ?_) | fail));refine ⟨i+1,by omega,by omega,?_⟩;refine (B1 [(29,15)] _ sm).trans ?_;simp only [go_sem,simprocAttr];rw [hstep,e1,e2];exact Jqc
   | cons r rs =>
    have hat:(rowL (hd :: Jq1 ns ls i) ++ rowL (r :: rs))[(Jq1 ns ls i).length+1]? = some [.int .i64 r.kind,.int .i64 r.many,.str r.name,.str r.s,.int .i64 r.n,.int .i64 r.c.kind,.int .i64 r.c.many,.str r.c.name,.str r.c.s,.bool r.c.neg,.int .i64 r.c.e]:=by
     rw [List.getElem?_append_right (by rw [hpl];exact Nat.le_refl _),hpl,Nat.sub_self];rfl
    have hset:(rowL (hd :: Jq1 ns ls i) ++ rowL (r :: rs)).set ((Jq1 ns ls i).length+1) [.int .i64 r.kind,.int .i64 r.many,.str nm,.str r.s,.int .i64 r.n,.int .i64 r.c.kind,.int .i64 r.c.many,.str r.c.name,.str r.c.s,.bool r.c.neg,.int .i64 r.c.e]=rowL (hd :: (Jq1 ns ls i ++ Jv8 nm (r :: rs))):=by
     rw [List.set_append_right _ _ (by rw [hpl];exact Nat.le_refl _),hpl,Nat.sub_self,show hd :: (Jq1 ns ls i ++ Jv8 nm (r :: rs))=(hd :: Jq1 ns ls i) ++ Jv8 nm (r :: rs) from rfl,Jwj];rfl
    have hv':rs.length+1≤900000:=hv;have c2:((0:Int)<((rs.length+1:Nat):Int))=True:=eq_true omg;have c3:(Jq1 ns ls i).length+1<(Jq1 ns ls i).length+1+(rs.length+1):=by omega
    (refine lws ?_;simp only [go_sem,simprocAttr,Jrj,Jrs,c1,c0,c2,hg,hgn,hpl,w1,hat,hset,Jqb]);(repeat' (first | (refine And.intro (by first | (simp;done)|(simp;omega)|(intro q hq;exact Jre _ q hq)) ?_)|(refine Jqd ?_) | fail));have e3:(Jq1 ns ls i ++ Jv8 nm (r :: rs)).length+1=(Jq1 ns ls i).length+1+(rs.length+1):=by rw [List.length_append,J0n];simp only [List.length_cons];omega
    refine ⟨i+1,by omega,by omega,?_⟩;refine (B1 [(29,15)] _ sm).trans ?_;simp only [go_sem,simprocAttr];rw [hstep,e3];exact Jqc
  ·have c0:((i:Int)<(ns.length:Int))=False:=eq_false omg;have hstep:Jq1 ns ls (i+1)=Jq1 ns ls i ++ v:=by
    rw [Jq1,Jux,if_neg hin];simp [List.getD_eq_getElem?_getD,hq]
   (refine lws ?_;simp only [go_sem,simprocAttr,Jrj,Jrs,c1,c0,hg,hpl,w1,Jqb]);(repeat' (first | (refine And.intro (by first | (simp;done)|(simp;omega)|(intro q hq;exact Jre _ q hq)) ?_)|(refine Jqd ?_) | fail));refine ⟨i+1,by omega,by omega,?_⟩;refine (B1 [(29,15)] _ sm).trans ?_;simp only [go_sem,simprocAttr];rw [hstep,e1,e2];exact Jqc
 ·have hil:i=ls.length:=by omega
  subst hil;have c1:((ls.length:Int)<(ls.length:Int))=False:=eq_false omg;have htk:(rowL (hd :: Jq1 ns ls ls.length)).take ((Jq1 ns ls ls.length).length+1)=rowL (hd :: Jq1 ns ls ls.length):=List.take_of_length_le (by rw [hpl];exact Nat.le_refl _);(refine lws ?_;simp only [go_sem,simprocAttr,Jrj,c1,hpl,hle0,htk])
  skip
end Go.LX
namespace Go.LX
open Go
def J53 (op:Int):Prop:=16≤op∧op≤19
instance (op:Int):Decidable (J53 op):=by unfold J53;infer_instance
def J6e (s:List UInt8):Prop:=(Je s).2.2=0
instance (s:List UInt8):Decidable (J6e s):=by unfold J6e;infer_instance
instance (c:Node):Decidable (Jqk c):=by unfold Jqk;infer_instance
def J4r (op:Int) (s:List UInt8) (n:Int) (c:Node) (m:Int):Prop :=
 if op=0∨op=10∨op=11∨op=14 then s=[]∧n=0∧c=Jry∧m=0
 else if op=1 then n=0∧c=Jry∧m=0∧valid s=true
 else if op=2∨op=3 then s=[]∧c=Jry∧m=0∧0≤n∧n≤1000000
 else if op=4∨op=17∨op=18 then s=[]∧n=0∧c=Jry∧m=2
 else if op=5∨op=6∨op=7∨op=19 then s=[]∧n=0∧c=Jry∧m=1
 else if op=8∨op=9 then s=[]∧n=0∧c=Jry∧0≤m
 else if op=12∨op=13∨op=15 then n=0∧c=Jry∧m=0∧J6e s
 else if op=16 then m=0∧J6e s∧0≤n∧n≤5∧Jqk c
 else False
def qkidOK (op:Int) (p:RKT):Prop:=(J53 p.2.kind ↔ J53 op∨op=7)∧(op≠8→p.1=[])∧(op=8→valid p.1=true)
def Kau (op:Int) (l:List RKT):Prop:=(∀ p∈l,qkidOK op p)∧(op=4→∀ p,l.head? = some p→p.2.kind≠4)∧(op=8→(l.map (·.1)).Nodup)
mutual
def okQ:RT→Prop
 | .mk op s n c kids=>J4r op s n c kids.len∧Kau op kids.list∧okQF kids
def okQF:RF→Prop
 | .nil=>True
 | .cons _ t r=>okQ t∧okQF r
end
theorem okQF_nil:okQF .nil:=by rw [okQF];trivial
end Go.LX
namespace Go.LX
open Go Go.RowKit Go.Proofs
attribute [local irreducible] Al SWP Bi
def J6f (x y:YRow):Prop:=x.kind=y.kind∧x.many=y.many∧x.name=y.name∧x.s=y.s∧x.n=y.n∧x.c=y.c
theorem Jz4 {x y:YRow}:J6f x y ↔ x=y:=by
 obtain ⟨a1,a2,a3,a4,a5,a6⟩:=x;obtain ⟨b1,b2,b3,b4,b5,b6⟩:=y;unfold J6f;constructor
 ·rintro ⟨h1,h2,h3,h4,h5,h6⟩;simp only at h1 h2 h3 h4 h5 h6;subst h1 h2 h3 h4 h5 h6;rfl
 ·rintro h;cases h;exact ⟨rfl,rfl,rfl,rfl,rfl,rfl⟩
instance (x y:YRow):Decidable (J6f x y):=inferInstanceAs (Decidable (_∧_))
instance:DecidableEq YRow:=fun x y=>decidable_of_iff _ (Jz4 (x:=x) (y:=y))
theorem rowB {x y:YRow}:(x.kind == y.kind && (x.many == y.many && (x.name == y.name && (x.s == y.s && (x.n == y.n && (x.c.kind == y.c.kind && (x.c.many == y.c.many && (x.c.name == y.c.name && (x.c.s == y.c.s && (x.c.neg == y.c.neg && x.c.e == y.c.e))))))))))=decide (x=y):=by
 rw [Jma,Bool.eq_iff_iff,decide_eq_true_eq,← Jz4];simp [J6f]
theorem Jwb {v:List YRow} {i:Nat} {n:YRow} (h:v[i]? = some n):(rowL v)[i]? = some [.int .i64 n.kind,.int .i64 n.many,.str n.name,.str n.s,.int .i64 n.n,.int .i64 n.c.kind,.int .i64 n.c.many,.str n.c.name,.str n.c.s,.bool n.c.neg,.int .i64 n.c.e]:=Jse h
def Jq7 (ls:List (List YRow)):List YRow:=ls.flatMap id
theorem J0p {l:List (List YRow)} {k:Nat} {p:List YRow} (h:l[k]? = some p):Jq7 (l.take (k+1))=Jq7 (l.take k) ++ p:=by
 unfold Jq7;rw [List.take_add_one,h,Option.toList_some,List.flatMap_append];simp
theorem J2l (l:List (List YRow)) (k:Nat):(Jq7 (l.take k)).length≤(Jq7 l).length:=by
 have:Jq7 l=Jq7 (l.take k) ++ Jq7 (l.drop k):=by unfold Jq7;rw [← List.flatMap_append,List.take_append_drop]
 rw [this,List.length_append];omega
end Go.LX
namespace Go.LX
open Go
def nmT (s:List UInt8):List UInt8:=if isWd s then s else refQ s
def Jrx (c:Node):List UInt8:=if c.kind=0 then [110,117,108,108] else if c.kind=1 then [102,97,108,115,101] else if c.kind=2 then [116,114,117,101] else if c.kind=3 then Jsd c else refQ c.s
def Jxy (n:Int):List UInt8:=if n=0 then [61,61] else if n=1 then [33,61] else if n=2 then [60] else if n=3 then [60,61] else if n=4 then [62] else [62,61]
def callN (op:Int):List UInt8:=if op=5 then [109,97,112] else if op=6 then [109,97,112,95,118,97,108,117,101,115] else if op=7 then [115,101,108,101,99,116] else if op=12 then [103,114,111,117,112,95,98,121] else if op=13 then [115,111,114,116,95,98,121] else if op=15 then [100,101,108] else []
def inBr (k:Int) (x:List UInt8):List UInt8:=if k=4∨k=17∨k=18 then 40 :: (x ++ [41]) else x
def Jrm (sep:List UInt8):List (List UInt8)→List UInt8
 | []=>[]
 | [x]=>x
 | x :: y :: l=>x ++ sep ++ Jrm sep (y :: l)
abbrev PTx:=List UInt8×Int×List UInt8
def oneT (op:Int) (p:PTx):List UInt8:=if op=8 then nmT p.1 ++ [58,32] ++ inBr p.2.1 p.2.2 else inBr p.2.1 p.2.2
def J56 (op:Int) (l:List PTx) (sep:List UInt8):List UInt8:=Jrm sep (l.map (oneT op))
def J80:List PTx→List UInt8
 | []=>[]
 | p :: _=>p.2.2
def qtextK (op:Int) (s:List UInt8) (n:Int) (c:Node) (l:List PTx):List UInt8 :=
 if op=0 then [46]
 else if op=1 then 46 :: nmT s
 else if op=2 then [46,91] ++ Lib.itoa n ++ [93]
 else if op=3 then [46,91] ++ Lib.itoa n ++ [58,93]
 else if op=4 then (match l with
  | [p,q]=>inBr p.2.1 p.2.2 ++ [32,124,32] ++ q.2.2
  | _=>[])
 else if op=8 then 123 :: (J56 op l [44,32] ++ [125])
 else if op=9 then 91 :: (J56 op l [44,32] ++ [93])
 else if op=10 then [116,111,95,101,110,116,114,105,101,115]
 else if op=11 then [102,114,111,109,95,101,110,116,114,105,101,115]
 else if op=14 then [114,101,118,101,114,115,101]
 else if op=16 then s ++ [32] ++ Jxy n ++ [32] ++ Jrx c
 else if op=17 then J56 op l [32,97,110,100,32]
 else if op=18 then J56 op l [32,111,114,32]
 else if op=19 then 40 :: (J80 l ++ [32,124,32,110,111,116,41])
 else callN op ++ [40] ++ (if l=[] then s else J80 l) ++ [41]
mutual
def qtext:RT→List UInt8
 | .mk k s n c kids=>qtextK k s n c (J9k kids)
def J9k:RF→List PTx
 | .nil=>[]
 | .cons nm t r=>(nm,t.kind,qtext t) :: J9k r
end
theorem J9j (s:List UInt8):(nmT s).length≤6 * s.length+2:=by
 have:=Jd4 s;unfold nmT;split <;> omega
theorem J8k (n:Int):(Jxy n).length≤2:=by
 unfold Jxy
 repeat' split
 all_goals simp
def sumT (l:List (List UInt8)):Nat:=(l.map List.length).sum
theorem Jtl (sep:List UInt8):∀ l:List (List UInt8),(Jrm sep l).length≤sumT l+sep.length * l.length
 | []=>by simp [Jrm,sumT]
 | [x]=>by simp [Jrm,sumT]
 | x :: y :: l=>by
  have:=Jtl sep (y :: l);simp only [sumT,List.map_cons,List.sum_cons,List.length_cons] at this ⊢;rw [Jrm,List.length_append,List.length_append,Nat.mul_add];omega
def QFit (s:List UInt8) (n:Int) (c:Node):Prop:=s.length≤100∧c.s.length≤100∧-9223372036854775808≤n∧n≤9223372036854775807∧-9223372036854775808≤c.e∧c.e≤9223372036854775807
mutual
def fitQ:RT→Prop
 | .mk _ s n c kids=>QFit s n c∧Jug kids
def Jug:RF→Prop
 | .nil=>True
 | .cons nm t r=>nm.length≤100∧fitQ t∧Jug r
end
theorem J0c {n:Int} (h0:-9223372036854775808≤n) (h1:n≤9223372036854775807):(Lib.itoa n).length≤21:=Lib.itoa_length_le n h0 h1
theorem Jvz (n:Nat):(Lib.repeatL [48] n).length=n:=by rw [Lib.repeatL_length];simp
theorem Jw2 {c:Node} (hs:c.s.length≤100) (h0:-9223372036854775808≤c.e) (h1:c.e≤9223372036854775807):(Jsd c).length≤200:=by
 have hg:(Jtt c).length≤1:=by unfold Jtt;split <;> simp
 have hi:=J0c h0 h1;unfold Jsd;split
 ·simp
 ·split
  ·rw [List.length_append,List.length_append,Jvz];omega
  ·split
   ·rename_i h2 _ h3;simp only [List.length_append,List.length_take,List.length_drop,Jvz,List.length_cons,List.length_nil];omega
   ·simp only [List.length_append,List.length_cons,List.length_nil];omega
theorem J3g {c:Node} (hs:c.s.length≤100) (h0:-9223372036854775808≤c.e) (h1:c.e≤9223372036854775807):(Jrx c).length≤700:=by
 have h2:=Jw2 hs h0 h1;have h3:=Jd4 c.s;unfold Jrx
 repeat' split
 all_goals first | omega | simp
def sumP (l:List PTx):Nat:=(l.map fun p=>p.2.2.length).sum
theorem J8c {c:Prop} [Decidable c] {a b:List UInt8} {n:Nat} (ha:a.length≤n) (hb:b.length≤n):(if c then a else b).length≤n:=by split <;> assumption
theorem Jwu {F G:RF} {r s:List YRow} (h:F.enc ++ r=G.enc ++ s) (hl:F.len=G.len):F=G∧r=s:=by
 have e1:=J12 (L:=(F.enc ++ r).length) F.enc.length F r (Nat.le_refl _) sm;have e2:=J12 (L:=(F.enc ++ r).length) G.enc.length G s (Nat.le_refl _) (by rw [h];simp);rw [← h,← hl,e1] at e2;injection e2 with e2
 obtain ⟨h1,h2⟩:=List.append_inj h e2;exact ⟨J5i _ (Nat.le_refl _) hl h1,h2⟩
theorem J0o {t u:RT} {a b:List UInt8} {r s:List YRow} (h:t.enc a ++ r=u.enc b ++ s):a=b∧t=u∧r=s:=by
 obtain ⟨h1,h2⟩:=Jwu (F:=.cons a t .nil) (G:=.cons b u .nil) (r:=r) (s:=s) (by rw [Jqf,Jqf,Jq5,List.append_nil,List.append_nil];exact h) rfl;injection h1 with h3 h4 _
 exact ⟨h3,h4,h2⟩
def two (a b:RT):RT:=.mk 4 [] 0 Jry (.cons [] a (.cons [] b .nil))
end Go.LX
namespace Go.LX
open Go Go.RowKit Go.Proofs
attribute [local irreducible] Al SWP Bi
def rpartsOf (f:RF):List (List PV):=f.list.map fun p=>[.str p.1,.sl (rowL (p.2.enc []))]
instance (op:Int) (s:List UInt8) (n:Int) (c:Node) (m:Int):Decidable (J4r op s n c m):=by unfold J4r;infer_instance
def rfL:List RKT→RF
 | []=>.nil
 | p :: l=>.cons p.1 p.2 (rfL l)
theorem nameR_enc (nm:List UInt8) (t:RT):Jv8 nm (t.enc [])=t.enc nm:=by
 cases t with
 | mk k s n c kids=>rw [Jqi,Jqi];rfl
def sameL (ns:List (List UInt8)) (t:RT):List RKT:=ns.map fun nm=>(nm,t)
theorem Ka1 (P:Tree→Bool):∀ l:List KT,tupS (List.replicate l.length P) l=allP P l
 | []=>rfl
 | q :: l=>by
  rw [List.length_cons,List.replicate_succ,tupS,Ka1 P l];rfl
end Go.LX
