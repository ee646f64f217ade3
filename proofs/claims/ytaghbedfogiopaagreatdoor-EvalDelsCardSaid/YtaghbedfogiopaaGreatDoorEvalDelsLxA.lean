/- Filters: what is deleted. -/
import Derived.Test.YtaghbedfogiopaaGreatDoorLxZ
set_option linter.unusedSimpArgs false
set_option linter.unusedVariables false
set_option linter.unusedSectionVars false
set_option linter.unnecessarySimpa false
set_option maxRecDepth 100000
set_option maxHeartbeats 2000000
namespace Go.LX
open Go Go.RowKit Go.Proofs
attribute [local irreducible] Al SWP Bi
attribute [go_sem] Tryz.ntmps9 Tryz.results9
theorem Om {name:List UInt8}:∀ {l:List KT} {p:KT},p∈A8 name l ↔ p∈l/\p.1≠name
 | [],p=>by simp [A8]
 | q :: l,p=>by
  simp only [A8];split
  ·rename_i h;rw [Om];constructor
   ·exact fun ⟨h1,h2⟩=>⟨Eag _ h1,h2⟩
   ·rintro ⟨h1,h2⟩;rcases Eaj.1 h1 with rfl | h1
    ·exact absurd h h2
    ·exact ⟨h1,h2⟩
  ·rename_i h;rw [Eaj,Om,Eaj];constructor
   ·rintro (rfl | ⟨h1,h2⟩)
    ·exact ⟨.inl rfl,h⟩
    ·exact ⟨.inr h1,h2⟩
   ·rintro ⟨rfl | h1,h2⟩
    ·exact .inl rfl
    ·exact .inr ⟨h1,h2⟩
structure PathFit (p:List Step):Prop where
 len:p.length<=140737488355328
 name:∀ x∈p,x.name.length<=140737488355328
theorem Jz:Det cx 14 [.p .snil,.p .snil] [] (.p (.bool true)) []:=by
 (refine bgo Tryz.func14 ?_;simp only [go_sem,simprocAttr]);refine SWP.loop (fun _:Nat=>⟨Ba 26 [(0,.p (.sl [])),(1,.p (.sl [])),(5,.p (.int .i64 0))],[]⟩) (fun _=>True) (fun _=>0) 0 Jqc trivial ?_;intro i _;(refine lws ?_;simp only [go_sem,simprocAttr])
 skip
end Go.LX
namespace Go.LX
open Go Go.Proofs Go.RowKit Go.ChangeShapes Go.WideShapes Go.ChangeAt Go.Lib
open Go.Proofs.YtaghbedfogiopaaGreatDoor
theorem cStep:Tryz.prog.cellsOf 63=3:=kr
theorem bStep:0<Tryz.prog.bytesOf 63:=by decide +kernel
theorem Jk6 {H:Type} {enc:TypeId×Value->H} {w:World} (fuel:Nat) (cs:List Value) (y:DataW H×List MemPlace) (h:DataW.trod enc Tryz.prog w 0 (fun _=>true) true fuel 63 cs=some y) (hz:∀ n∈y.1.weights Tryz.prog 63,n<=reachBytes) :
  ∃ x:Step,x.name.length<=140737488355328/\cs=x.vals:=by
 obtain ⟨xs,n,_,rfl,hl,hlen,hf⟩:=DataW.trod_struct Tryz.underlying63 h;rw [cStep] at hl
 match xs,hlen,cs,hl with
 | [y0,y1,y2],_,[a,b,c],_ =>
  have g0:=hf 0 _ rfl;have g1:=hf 1 _ rfl;have g2:=hf 2 _ rfl;simp only [cBool,cStr,cInt,Ebi,Eb1,List.take_succ_cons,List.take_zero,List.getElem?_cons_zero,List.getElem?_cons_succ] at g0 g1 g2;obtain ⟨x0,e0,rfl⟩:=DataW.trod_bool Tryz.underlying4 g0;obtain ⟨x1,e1,rfl,_⟩:=DataW.trod_string Tryz.underlying9 g1;obtain ⟨x2,e2,rfl,_⟩:=DataW.trod_int Tryz.underlying3 g2;cases e0;cases e1;cases e2;refine ⟨⟨x0,x1.data.toList,x2⟩,?_,?_⟩
  ·have h1:=hz x1.data.toList.length (by simp [DataW.weights,DataW.weightsEach,Tryz.underlying63]);have hreach:reachBytes<=140737488355328:=by decide
   exact Nat.le_trans h1 hreach
  ·simp only [Step.vals,Jc3]
theorem Jmi (w:World) (Im:Nat->Prop) (x:Step) (j:Nat) (p:PV) (h:x.cells[j]? = some p):PRep w Im (x.vals.getD j undef) p:=by
 match j,h with
 | 0,h=>cases h;exact PRep.bool _
 | 1,h=>cases h;exact PRep.str _
 | 2,h=>cases h;exact PRep.int _ _
 | j+3,h=>simp [Step.cells] at h
theorem Z7 {H:Type} {enc:TypeId×Value->H} {w:World} {b:Nat} {v:Value} (hok:Cell.okWide Tryz.prog w .any b 33 v) {fuel:Nat} {x:DataW H×List MemPlace} (h:DataW.trod enc Tryz.prog w 0 (fun _=>true) true fuel 33 [v]=some x) (hz:∀ n∈x.1.weights Tryz.prog 33,n<=reachBytes) :
  ∃ p:List Step,PathFit p/\PRep w (Ja w) v (.sl (Bb p)):=by
 obtain ⟨p,h1,h2,h3⟩:=Xx Step.vals Step.cells (fun x=>x.name.length<=140737488355328) Tryz.underlying33 cStep bStep (fun _=>rfl) (fun _=>rfl) (fun x p hp=>by simp [Step.cells] at hp;rcases hp with rfl | rfl | rfl <;> rfl) (Jmi w) Jk6 hok h hz;exact ⟨p,⟨h1,h2⟩,h3⟩
theorem Jdf {w:World} {Im:Nat->Prop} {a b:Value} {x y:PV} (hx:x.scalar=true) (hy:y.scalar=true) (ha:PRep w Im a x) (hb:PRep w Im b y):PRep w Im (.agg ⟨[a,b]⟩) (.agg [x,y]):=by
 refine PRep.agg _ _ rfl (by simp [hx,hy]) fun i v p hv hp=>?_
 match i,hv,hp with
 | 0,hv,hp=>cases hv;cases hp;exact ha
 | 1,hv,hp=>cases hv;cases hp;exact hb
 | i+2,hv,hp=>simp at hv
theorem cPath2:Tryz.prog.cellsOf 56=2:=kr
theorem tPath2:Tryz.prog.cellTypes Tryz.prog.depth 56=some [33,33]:=kr
theorem Mx {H:Type} {enc:TypeId×Value->H} {w:World} {b:Nat} {v:Value} {d:DataW H} {q:List MemPlace} {ts:List TypeId} {ds:List (DataW H)} (hok:Value.okWide Tryz.prog w .any b 56 v) (h:DataW.Trod enc Tryz.prog w 0 (fun _=>true) true 56 v d q)
  (hz:(DataW.weightsEach Tryz.prog ts ds).all (· <= reachBytes)=true) {j:Nat} (h1:ts[j]? = some 56) (h2:ds[j]? = some d):∃ p r:List Step,PathFit p/\PathFit r/\PRep w (Ja w) v (.agg [.sl (Bb p),.sl (Bb r)]):=by
 simp only [Value.okWide,Tryz.underlying56] at hok;obtain ⟨cs,rfl,hs,ts',hts,_,hc⟩:=hok;rw [cPath2] at hs;rw [tPath2] at hts;cases hts;obtain ⟨l⟩:=cs;have hw:=J0 hz h1 h2;obtain ⟨fuel,h⟩:=h;obtain ⟨xs,m,_,e1,hl,hlen,hf⟩:=DataW.trod_array Tryz.underlying56 h
 match l,hs,hc,xs,hlen with
 | [a0,a1],_,hc,[y0,y1],_ =>
  obtain ⟨u0,g0,k0⟩:=hc 0 a0 rfl;obtain ⟨u1,g1,k1⟩:=hc 1 a1 rfl;cases g0;cases g1;have f0:=hf 0 omg;have f1:=hf 1 omg;simp only [Jo3,Value.cells,Ebi,Ecs,Ecv,Eb1,List.take_succ_cons,List.take_zero,List.getElem?_cons_zero,List.getElem?_cons_succ] at f0 f1;obtain rfl:d=.agg [y0.1,y1.1]:=by simpa using (Ecw e1).1
  obtain ⟨p,hp,rp⟩:=Z7 k0 f0 (fun n hn=>hw n (by simp [DataW.weights,DataW.weightsAll,Tryz.underlying56,hn]));obtain ⟨r,hr,rr⟩:=Z7 k1 f1 (fun n hn=>hw n (by simp [DataW.weights,DataW.weightsAll,Tryz.underlying56,hn]));exact ⟨p,r,hp,hr,Jdf rfl rfl rp rr⟩
end Go.LX
namespace Go.LX
open Go
def allF (b:Nat->Bool):Nat->Nat->Bool
 | 0,_=>true
 | k+1,i=>b i && allF b k (i+1)
end Go.LX
namespace Go.LX
open Go Go.RowKit Go.Proofs
attribute [local irreducible] Al SWP Bi
def Kh2 (p:List Step):Bool:=p.all fun x=>!x.part
def fldB (p:List Step) (i:Nat):Bool:=match p[i]? with
 | some x=>!x.part
 | none=>true
theorem Ki0 {p:List Step}:∀ {m:List Step} {i:Nat},p.drop i=m->allF (fldB p) m.length i=Kh2 m
 | [],i,_=>rfl
 | x :: m,i,h=>by
  have hx:p[i]? = some x:=by have:=congrArg (·[0]?) h;simpa using this
  rw [List.length_cons,allF,fldB,hx,Ki0 (m:=m) (i:=i+1) (by rw [<- Ebg,h];rfl)];rfl
theorem Ki1 (p:List Step) (hp:p.length<=1000000):Det cx 31 [.p (.sl (Bb p))] [] (.p (.bool (Kh2 p))) []:=by
 rw [<- Ki0 (p:=p) (m:=p) (i:=0) rfl];(refine bgo Tryz.func31 ?_;simp only [go_sem,simprocAttr]);refine SWP.loop (fun i:Nat=>⟨Ba 15 [(0,.p (.sl (Bb p))),(3,.p (.int .i64 i))],[]⟩) (fun i=>i<=p.length/\allF (fldB p) p.length 0=allF (fldB p) (p.length - i) i) (fun i=>p.length - i) 0 Jqc ⟨Eav _,rfl⟩ ?_;rintro i ⟨h2,h4⟩;by_cases hi:¬ i<p.length
 ·have c9:((i:Int)<(p.length:Int))=False:=eq_false omg;rw [show p.length - i=0 by omega,allF] at h4;(refine lws ?_;simp only [go_sem,simprocAttr,Aq,c9]);rw [h4]
 ·have hi:=Ea1.1 hi;have c9:((i:Int)<(p.length:Int))=True:=eq_true omg;obtain ⟨x,hq⟩:∃ x,p[i]? = some x:=⟨_,Eaa hi⟩
  obtain ⟨k,hk1⟩:∃ k,p.length - i=k+1:=⟨p.length - i - 1,by omega⟩
  have hg:=Dk hq;rw [hk1,allF,show fldB p i = !x.part by rw [fldB,hq]] at h4;cases hb:x.part with
  | true =>
   rw [hb] at h4 hg;(refine lws ?_;simp only [go_sem,simprocAttr,Aq,c9,hg]);rw [h4];rfl
  | false =>
   rw [hb,Ect,Bool.true_and] at h4;rw [hb] at hg;(refine lws ?_;simp only [go_sem,simprocAttr,Aq,c9,hg,wj1 (i:=i) omg]);exact ⟨i+1,⟨by omega,by rw [h4,show p.length - (i+1)=k by omega]⟩,by omega,Jqc⟩
theorem Khw:∀ p:List Step,Jrd p nilT=.ok nilT
 | []=>rfl
 | x :: p=>by rw [Jrd,Ke1];exact Khw p
theorem Kjx {t:Tree} (ok:okT t) (h:t.kind=0):t=nilT:=by
 obtain ⟨k,s,g,e,kids⟩:=t;exact Kbh ok h
theorem Khx {name n':List UInt8} (hn:n'≠name):∀ l:List KT,Ch n' (A8 name l)=Ch n' l
 | []=>rfl
 | p :: l=>by
  rw [A8];by_cases h:p.1=name
  ·rw [if_pos h,Khx hn l,Ch,if_neg (fun e=>hn (by rw [<- e,h]))]
  ·rw [if_neg h,Ch,Ch,Khx hn l]
theorem Kip {l:List KT} {x:Step} (hp:x.part=true):Jrc x (nd 6 l)=.error 5:=by
 obtain ⟨b,nm,n⟩:=x;simp only at hp;subst hp;exact J3l de de
theorem Kjt {l:List KT} {x:Step} (hp:x.part=false) (h:Ch x.name l=none):inT (nd 6 l) x=.error 6:=by rw [Vv hp,h]
theorem Kjl {t:Tree} {x:Step} (h:inT t x=.error 6):Jrc x t=.ok nilT:=by
 obtain ⟨k,s,g,e,kids⟩:=t;obtain ⟨b,nm,n⟩:=x;cases b with
 | true =>
  by_cases k5:k=5
  ·subst k5;rw [Tm rfl] at h;rw [Jza];simp only at h;cases hq:kids.list[n.toNat]? with
   | none=>rfl
   | some q=>rw [hq] at h;cases h
  ·rw [Iz rfl k5] at h;cases h
 | false =>
  by_cases k6:k=6
  ·subst k6;rw [Tp rfl] at h;rw [Jw4];simp only at h;cases hq:Ch nm kids.list with
   | none=>rfl
   | some q=>rw [hq] at h;cases h
  ·rw [Iw rfl k6] at h;cases h
theorem Kjk (name:List UInt8) (l:List KT):Ch name (A8 name l)=none:=Ls fun p hp=>(Om.1 hp).2
theorem Ki5:∀ {p:List Step} {t u:Tree},GT t->(∀ x∈p,x.part=false)->delT p t=.ok u->Jrd p u=.ok nilT/\delT p u=.ok u
 | [],t,u,_,_,h=>by
  rw [delT] at h;cases h;exact ⟨rfl,rfl⟩
 | x :: p,t,u,hg,hf,h=>by
  have hx:=hf x Eaf;have hdel:=h;rw [Kd0] at h;by_cases k0:t.kind=0
  ·rw [if_pos k0] at h;cases h;have:=Kjx hg.1 k0;subst this;exact ⟨Khw _,hdel⟩
  ·rw [if_neg k0] at h;cases hi:inT t x with
   | error e =>
    rw [hi] at h;simp only at h;by_cases e6:e=6
    ·subst e6;rw [if_pos rfl] at h;cases h;refine ⟨?_,hdel⟩;rw [Jrd,Kjl hi];exact Khw p
    ·rw [if_neg e6] at h;cases h
   | ok w =>
    rw [hi] at h;simp only at h;have hw:=Jv hg.1 hi;have hwg:GT w:=J6k hg (Kht hi);cases hw with
    | list l h1 h2 h3 h4=>rw [hx] at h2;cases h2
    | obj l h1 h2 h3 h4 =>
     subst h1;have hw:Way (nd 6 l) x w:=.obj l rfl h2 h3 h4;cases p with
     | nil =>
      rw [if_pos rfl,Keb hx] at h;cases h;have hn:=Kjk x.name l;refine ⟨?_,?_⟩
      ·rw [Jrd,Kfz hx,hn];rfl
      ·rw [Kd0,if_neg (show ¬ (nd 6 (A8 x.name l)).kind=0 from (by decide:¬ (6:Int)=0)),Kjt hx hn];rfl
     | cons y p =>
      rw [if_neg sm] at h;cases hd:delT (y :: p) w with
      | error e=>rw [hd] at h;cases h
      | ok z =>
       rw [hd] at h;simp only at h;rw [setT,hi] at h;simp only [setT] at h;cases h;obtain ⟨i1,i2⟩:=Ki5 hwg (fun a ha=>hf a (Eag _ ha)) hd;have hpg:=L7 (y:=z) hw;have hk:¬ (putT (nd 6 l) x z).kind=0:=by rw [C7 hx h3 h4];exact (by decide:¬ (6:Int)=0)
       refine ⟨?_,?_⟩
       ·rw [Jrd,Kht hpg];exact i1
       ·rw [Kd0,if_neg hk,hpg];simp only;rw [if_neg sm,i2];simp only;rw [setT,hpg];simp only [setT];rw [Ot hw]
theorem Kil:∀ {p q:List Step} {t u:Tree},GT t->(∀ x∈p,x.part=false)->(∀ x∈p,Bc x)->(∀ x∈q,Bc x)->B7 p q=true->delT p t=.ok u->Jrd q u=Jrd q t
 | [],q,_,_,_,_,_,_,h,_=>by cases q <;> simp [B7] at h
 | x :: p,[],_,_,_,_,_,_,h,_=>by simp [B7] at h
 | x :: p,y :: q,t,u,hg,hf,hp,hq,hap,h=>by
  have hx:=hf x Eaf;rw [Kd0] at h;by_cases k0:t.kind=0
  ·rw [if_pos k0] at h;cases h;rfl
  ·rw [if_neg k0] at h;cases hi:inT t x with
   | error e =>
    rw [hi] at h;simp only at h;by_cases e6:e=6
    ·subst e6;rw [if_pos rfl] at h;cases h;rfl
    ·rw [if_neg e6] at h;cases h
   | ok w =>
    rw [hi] at h;simp only at h;have hw:=Jv hg.1 hi;have hwg:GT w:=J6k hg (Kht hi);cases hw with
    | list l h1 h2 h3 h4=>rw [hx] at h2;cases h2
    | obj l h1 h2 h3 h4 =>
     subst h1;have hw:Way (nd 6 l) x w:=.obj l rfl h2 h3 h4;by_cases hxy:x=y
     ·subst hxy;have hse:F8 x x:=Dc.2 rfl;rw [B7] at hap;simp only [hse,decide_true,Ebe,Bool.false_or] at hap;cases p with
      | nil=>cases q <;> simp [B7] at hap
      | cons a p =>
       rw [if_neg sm] at h;cases hd:delT (a :: p) w with
       | error e=>rw [hd] at h;cases h
       | ok z =>
        rw [hd] at h;simp only at h;rw [setT,hi] at h;simp only [setT] at h;cases h;have hpg:=L7 (y:=z) hw;rw [Jrd,Jrd,Kht hpg,Kht hi];exact Kil hwg (fun b hb=>hf b (Eag _ hb)) (fun b hb=>hp b (Eag _ hb)) (fun b hb=>hq b (Eag _ hb)) hap hd
     ·have hy:=hq y Eaf;have hxo:=hp x Eaf
      suffices hs:Jrc y u=Jrc y (nd 6 l) by rw [Jrd,Jrd,hs]
      have hu:∃ l',u=nd 6 l'/\∀ n',n'≠x.name->Ch n' l'=Ch n' l:=by
       cases p with
       | nil =>
        rw [if_pos rfl,Keb hx] at h;cases h;exact ⟨_,rfl,fun n' hn=>Khx hn l⟩
       | cons a p =>
        rw [if_neg sm] at h;cases hd:delT (a :: p) w with
        | error e=>rw [hd] at h;cases h
        | ok z =>
         rw [hd] at h;simp only at h;rw [setT,hi] at h;simp only [setT] at h;cases h;exact ⟨_,C7 hx h3 h4,fun n' hn=>G8 hn⟩
      obtain ⟨l',rfl,hl'⟩:=hu;cases hyp:y.part with
      | true=>rw [Kip hyp,Kip hyp]
      | false =>
       rw [Kfz hyp,Kfz hyp,hl'];intro e;refine hxy ?_;unfold Bc at hy hxo;rw [if_neg (by simp [hyp])] at hy;rw [if_neg (by simp [hx])] at hxo;cases x;cases y;simp_all
theorem Kj2 (s:List UInt8) (i:Nat) (hs:s.length<=140737488355328) (hi:i<=200000000000000):Det cx 151 [.p (.str s),.p (.int .i64 i)] [] (.p (.bool (ct s i))) []:=by
 (refine bgo Tryz.func151 ?_;simp only [go_sem,simprocAttr]);(repeat' (first|(apply iteI<;>intro h)|refine Jqj ?_|fail))
 all_goals (rw [Ea0];simp [ct];omega)
theorem Kjy (s:List UInt8) (i:Nat) (hs:s.length<=140737488355328) (hi:i<s.length):Det cx 113 [.p (.str s),.p (.int .i64 i)] [] (.p (.int .i64 (rlen s i))) []:=by
 have w1:=wi1 (i:=i) omg;have w2:=wi2 (i:=i) omg;have w3:=wi3 (i:=i) omg;have hA:=Fr s i;have hB:=Fr s (i+1);(refine bgo Tryz.func113 ?_;simp only [go_sem,simprocAttr,w1]);(repeat' (first|(apply iteI<;>intro h)|refine Jqj ?_|((refine Jqa (Kj2 s _ hs omg) ?_);simp only [go_sem,simprocAttr,w1,w2,w3])|(refine And.intro (ct_lt (by assumption)) ?_)|(exfalso;omega)))
 all_goals (clear w1 w2 w3;unfold rlen;simp only [J3] at *;(repeat' split) <;> omega)
theorem Kjj (s:List UInt8) (hs:s.length<=140737488355328):Det cx 57 [.p (.str s)] [] (.p (.bool (valid s))) []:=by
 (refine bgo Tryz.func57 ?_;simp only [go_sem,simprocAttr]);refine SWP.loop (fun x:Nat×Nat=>⟨Ba 17 [(0,.p (.str s)),(3,.p (.int .i64 x.1))],[]⟩) (fun x=>x.1<=s.length/\s.length+1<=x.1+x.2/\vF s x.2 x.1=valid s) (fun x=>s.length - x.1) (0,s.length+1) Jqc ⟨by simp,by simp,rfl⟩ ?_;rintro ⟨i,f⟩ ⟨h1,h2,h3⟩;simp only at h1 h2 h3;obtain ⟨g,rfl⟩:∃ g,f=g+1:=⟨f - 1,by omega⟩
 have h4:=Qv s i;have hw:=wia (i:=i) (j:=rlen s i) omg omg;(refine lws ?_;simp only [go_sem,simprocAttr]);(repeat' (first|(apply iteI<;>intro h)|((refine Jqa (Kjy s i hs omg) ?_);simp only [go_sem,simprocAttr,hw])|fail))
 ·rw [<- h3,vF,if_pos omg,if_pos omg]
 ·have:=M4 s i omg;exact ⟨(i+rlen s i,g),⟨by simp only;omega,by simp only;omega,by simp only;rw [<- h3,vF,if_pos omg,if_neg omg]⟩,by simp only;omega,Jqc⟩
 ·rw [<- h3,vF,if_neg omg]
theorem Kh6 (p:List Step) (hp:p.length<=140737488355328) (hn:∀ x∈p,x.name.length<=140737488355328):Det cx 16 [.p (.sl (Bb p))] [] (.p (.bool (decide (E9 p)))) []:=by
 (refine bgo Tryz.func16 ?_;simp only [go_sem,simprocAttr]);refine SWP.loop (fun i:Nat=>⟨Ba 67 [(0,.p (.sl (Bb p))),(3,.p (.int .i64 i))],[]⟩) (fun i=>i<=p.length/\∀ x∈p.take i,Bc x) (fun i=>p.length - i) 0 Jqc ⟨Eav _,by simp⟩ ?_;rintro i ⟨h1,h3⟩;by_cases hi:¬ i<p.length
 ·have hc:((i:Int)<(p.length:Int))=False:=eq_false omg;(refine lws ?_;simp only [go_sem,simprocAttr,Aq,hc]);rw [Ead omg] at h3;by_cases hl:p.length<=20
  ·rw [decide_eq_true (show (p.length:Int)<=20 by omega),decide_eq_true ⟨hl,h3⟩]
  ·rw [decide_eq_false (show ¬ (p.length:Int)<=20 by omega),decide_eq_false (fun h=>hl h.1)]
 ·have hi:=Ea1.1 hi;obtain ⟨x,hx⟩:∃ x,p[i]? = some x:=⟨_,Eaa hi⟩
  have hg:=Dk hx;have hm':=Eae hx;have hc:((i:Int)<(p.length:Int))=True:=eq_true omg;have next:Bc x->∀ y∈p.take (i+1),Bc y:=fun hs y hy=>by
   rw [Ea8,hx] at hy;rcases Eau.1 hy with hy | hy
   ·exact h3 y hy
   ·simp at hy;subst hy;exact hs
  have bad:¬ Bc x->false=decide (E9 p):=fun hs=>(decide_eq_false fun h=>hs (h.2 x hm')).symm
  cases hpt:x.part
  ·(refine lws ?_;simp only [go_sem,simprocAttr,hc,Aq,hg,hpt,wi1 (i:=i) omg]);(repeat' (first|(apply iteI<;>intro h)|((refine Jqa (Kjj x.name (hn x hm')) ?_);simp only [go_sem,simprocAttr,wi1 (i:=i) omg])|fail))
   ·exact bad (fun hs=>by unfold Bc at hs;rw [hpt,if_neg sm] at hs;exact absurd hs.1 (by assumption))
   ·exact bad (fun hs=>by unfold Bc at hs;rw [hpt,if_neg sm] at hs;simp_all)
   ·refine ⟨i+1,⟨by omega,next ?_⟩,by omega,Jqc⟩;unfold Bc;rw [hpt,if_neg sm];exact ⟨by omega,by simp_all⟩
  ·(refine lws ?_;simp only [go_sem,simprocAttr,hc,Aq,hg,hpt,wi1 (i:=i) omg]);(repeat' (apply iteI <;> intro h))
   ·exact bad (fun hs=>by unfold Bc at hs;rw [hpt,if_pos rfl] at hs;have e:x.name.length=0:=(by rw [hs.1];rfl);omega)
   ·exact bad (fun hs=>by unfold Bc at hs;rw [hpt,if_pos rfl] at hs;omega)
   ·exact bad (fun hs=>by unfold Bc at hs;rw [hpt,if_pos rfl] at hs;omega)
   ·refine ⟨i+1,⟨by omega,next ?_⟩,by omega,Jqc⟩;unfold Bc;rw [hpt,if_pos rfl];exact ⟨Eal omg,by omega,by omega⟩
theorem Kiy (p q:List Step) (hp:p.length<=1000000) (hq:q.length<=1000000):Det cx 32 [.p (.sl (Bb p)),.p (.sl (Bb q))] [] (.p (.bool (B7 p q))) []:=by
 (refine bgo Tryz.func32 ?_;simp only [go_sem,simprocAttr]);refine SWP.loop (fun i:Nat=>⟨Ba 27 [(0,.p (.sl (Bb p))),(1,.p (.sl (Bb q))),(5,.p (.int .i64 i))],[]⟩) (fun i=>i<=p.length/\i<=q.length/\B7 (p.drop i) (q.drop i)=B7 p q) (fun i=>p.length - i) 0 Jqc ⟨Eav _,Eav _,rfl⟩ ?_;rintro i ⟨h1,h2,h3⟩;by_cases hi:¬ (i<p.length/\i<q.length)
 ·have e:B7 (p.drop i) (q.drop i)=false:=by
   by_cases hi':i<p.length
   ·rw [show q.drop i=[] from Ear omg];exact Jb0 _
   ·rw [show p.drop i=[] from Ear omg];rfl
  (refine lws ?_;simp only [go_sem,simprocAttr,Aq]);(repeat' (first|(exfalso;omega)|(apply iteI <;> intro h)))
  all_goals rw [<- h3,e]
 ·have hi:=Ea1.1 hi;obtain ⟨x,hx⟩:∃ x,p[i]? = some x:=⟨_,Eaa hi.1⟩
  obtain ⟨y,hy⟩:∃ y,q[i]? = some y:=⟨_,Eaa hi.2⟩
  have hgx:=Dk hx;have hgy:=Dk hy;have hdx:p.drop i=x :: p.drop (i+1):=by rw [Eax hi.1];congr 1;rw [Eaa hi.1] at hx;exact Ea3 hx
  have hdy:q.drop i=y :: q.drop (i+1):=by rw [Eax hi.2];congr 1;rw [Eaa hi.2] at hy;exact Ea3 hy
  rw [hdx,hdy,B7] at h3;have c1:((i:Int)<(p.length:Int))=True:=eq_true omg;have c2:((i:Int)<(q.length:Int))=True:=eq_true omg;(refine lws ?_;simp only [go_sem,simprocAttr,Aq,wi1 (i:=i) omg]);(repeat' (first|(apply iteI<;>intro h)|((refine Jqm ?_);simp only [go_sem,simprocAttr,hgx,hgy,wi1 (i:=i) omg])|(exfalso;omega)))
  ·have h:=(show (x.part == y.part && (x.name == y.name && x.n == y.n))=false by assumption)
   rw [Pw] at h;rw [<- h3,h];rfl
  ·have h:=(show ¬ (x.part == y.part && (x.name == y.name && x.n == y.n))=false by assumption)
   rw [Pw,Bool.not_eq_false] at h;rw [h] at h3;exact ⟨i+1,⟨by omega,by omega,h3⟩,by omega,Jqc⟩
theorem Kji:valL (nilT.enc [])=[[.int .i64 0,.int .i64 0,.str [],.str [],.bool false,.int .i64 0]]:=rfl
theorem Kjb {p:List Step}:Kh2 p=true ↔ ∀ x∈p,x.part=false:=by
 unfold Kh2;rw [Ebw];exact ⟨fun h x hx=>by simpa using h x hx,fun h x hx=>by simpa using h x hx⟩
theorem Kjf (p q:List Step) (u:List Node) (hp:PathFit p) (hq:PathFit q) (hu:ValFit u):Det cx 9 [.p (.agg [.sl (Bb p),.sl (Bb q)]),.p (.sl (valL u))] [] (.p (.bool true)) []:=by
 have hG:=Ln u 40 omg (by have:=hu.len;omega) hu.node;cases b1:fewB u 40 with
 | false =>
  rw [b1] at hG;(refine bgo Tryz.func9 ?_;simp only [go_sem,simprocAttr]);(repeat' (first|((first|refine Jqa hG ?_|refine Jqa Jsw ?_);simp only [go_sem,simprocAttr])|fail))
 | true =>
 rw [b1] at hG;have hR:=Kh6 p hp.len hp.name;by_cases o1:E9 p
 case neg =>
  rw [decide_eq_false o1] at hR;(refine bgo Tryz.func9 ?_;simp only [go_sem,simprocAttr]);(repeat' (first|((first|refine Jqa hG ?_|refine Jqa hR ?_|refine Jqa Jsw ?_);simp only [go_sem,simprocAttr])|fail))
 case pos =>
 rw [decide_eq_true o1] at hR;have hR2:=Kh6 q hq.len hq.name;by_cases o2:E9 q
 case neg =>
  rw [decide_eq_false o2] at hR2;(refine bgo Tryz.func9 ?_;simp only [go_sem,simprocAttr]);(repeat' (first|((first|refine Jqa hG ?_|refine Jqa hR ?_|refine Jqa hR2 ?_|refine Jqa Jsw ?_);simp only [go_sem,simprocAttr])|fail))
 case pos =>
 rw [decide_eq_true o2] at hR2;obtain ⟨l1,o1⟩:=o1;obtain ⟨l2,o2⟩:=o2;have hF:=Ki1 p omg;cases b2:Kh2 p with
 | false =>
  rw [b2] at hF;(refine bgo Tryz.func9 ?_;simp only [go_sem,simprocAttr]);(repeat' (first|((first|refine Jqa hG ?_|refine Jqa hR ?_|refine Jqa hR2 ?_|refine Jqa hF ?_|refine Jqa Jsw ?_);simp only [go_sem,simprocAttr])|fail))
 | true =>
 rw [b2] at hF;have hfp:=Kjb.1 b2;by_cases h0:p.length=0
 ·have c0:((p.length:Int)=0)=True:=eq_true omg;(refine bgo Tryz.func9 ?_;simp only [go_sem,simprocAttr]);(repeat' (first|((first|refine Jqa hG ?_|refine Jqa hR ?_|refine Jqa hR2 ?_|refine Jqa hF ?_|refine Jqa Jsw ?_);simp only [go_sem,simprocAttr,Aq,c0])|fail))
 have c0:((p.length:Int)=0)=False:=eq_false omg;obtain ⟨x,hx,rfl,hxl,hxf⟩:=Fw hu b1;have hgx:GT x:=⟨hx,hxf⟩
 have hD:=Jz5 p x omg o1 hgx omg;cases hd:delT p x with
 | error e =>
  rw [hd,getR] at hD;have:=Jy1 hd;subst this;(refine bgo Tryz.func9 ?_;simp only [go_sem,simprocAttr]);(repeat' (first|((first|refine Jqa hG ?_|refine Jqa hR ?_|refine Jqa hR2 ?_|refine Jqa hF ?_|refine Jqa hD ?_|refine Jqa Jsw ?_);simp only [go_sem,simprocAttr,Aq,c0])|fail))
 | ok y =>
 rw [hd,getR] at hD;obtain ⟨hgy,hyl⟩:=J30 hgx hd;obtain ⟨d1,d2⟩:=Ki5 hgx hfp hd;have hpos:=Et y [];have c2:(((y.enc []).length:Int)=0)=False:=eq_false omg;have f1:=J40 p y omg o1 hgy.1 omg;rw [d1,getR,Kji] at f1;have hD2:=Jz5 p y omg o1 hgy omg;rw [d2,getR] at hD2;have sN:=E2 (nilT.enc []) (nilT.enc []) de de;rw [decide_eq_true rfl,Kji] at sN;have sY:=E2 (y.enc []) (y.enc []) omg omg;rw [decide_eq_true rfl] at sY;have f2:=J40 q x omg o2 hgx.1 omg;have f3:=J40 q y omg o2 hgy.1 omg;have hA:=Kiy p q omg omg;have hlY:(valL (y.enc [])).length=(y.enc []).length:=A7 _;cases ha:B7 p q with
 | false =>
  rw [ha] at hA;rw [Jqz] at f2 f3;generalize valL (y.enc [])=Y at *
  (refine bgo Tryz.func9 ?_;simp only [go_sem,simprocAttr]);(repeat' (first|((first|refine Jqa hG ?_|refine Jqa hR ?_|refine Jqa hR2 ?_|refine Jqa hF ?_|refine Jqa hD ?_|refine Jqa hD2 ?_|refine Jqa f1 ?_|refine Jqa f2 ?_|refine Jqa f3 ?_|refine Jqa hA ?_|refine Jqa sN ?_|refine Jqa sY ?_|refine Jqa Jsw ?_);simp only [go_sem,simprocAttr,Aq,c0,c2,hlY])|fail))
 | true =>
  rw [ha] at hA;rw [Kil hgx hfp o1 o2 ha hd] at f3;cases hz:Jrd q x with
  | error e =>
   rw [hz,getR] at f2 f3;generalize valL (y.enc [])=Y at *
   (refine bgo Tryz.func9 ?_;simp only [go_sem,simprocAttr]);(repeat' (first|((first|refine Jqa hG ?_|refine Jqa hR ?_|refine Jqa hR2 ?_|refine Jqa hF ?_|refine Jqa hD ?_|refine Jqa hD2 ?_|refine Jqa f1 ?_|refine Jqa f2 ?_|refine Jqa f3 ?_|refine Jqa hA ?_|refine Jqa sN ?_|refine Jqa sY ?_|refine Jqa Jz ?_|refine Jqa Jsw ?_);simp only [go_sem,simprocAttr,Aq,c0,c2,hlY])|fail))
  | ok z =>
   rw [hz,getR] at f2 f3;have hzl:=Jxh hz;have sZ:=E2 (z.enc []) (z.enc []) omg omg;rw [decide_eq_true rfl] at sZ;generalize valL (y.enc [])=Y at *
   (refine bgo Tryz.func9 ?_;simp only [go_sem,simprocAttr]);(repeat' (first|((first|refine Jqa hG ?_|refine Jqa hR ?_|refine Jqa hR2 ?_|refine Jqa hF ?_|refine Jqa hD ?_|refine Jqa hD2 ?_|refine Jqa f1 ?_|refine Jqa f2 ?_|refine Jqa f3 ?_|refine Jqa hA ?_|refine Jqa sN ?_|refine Jqa sY ?_|refine Jqa sZ ?_|refine Jqa Jsw ?_);simp only [go_sem,simprocAttr,Aq,c0,c2,hlY])|fail))
end Go.LX
