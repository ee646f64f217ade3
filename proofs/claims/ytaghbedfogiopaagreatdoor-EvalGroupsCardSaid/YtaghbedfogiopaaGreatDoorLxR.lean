/- Paths: a field's step, a part's step. -/
import Derived.Test.YtaghbedfogiopaaGreatDoorLxQ
import Derived.Lib.ItoaLen
set_option linter.unusedSimpArgs false
set_option linter.unusedVariables false
set_option linter.unusedSectionVars false
set_option linter.unnecessarySimpa false
set_option maxRecDepth 100000
set_option maxHeartbeats 2000000
namespace Go.LX
open Go Go.RowKit Go.Proofs
attribute [local irreducible] Al SWP Bi
def Dv:Step:=⟨false,[],0⟩
def Bw (s:List UInt8):Step×Nat :=
 if s.take 1=[46] then
  if 0<Dm (s.drop 1) then (⟨false,(s.drop 1).take (Dm (s.drop 1)),0⟩,Dm (s.drop 1)+1)
  else if (uq (s.drop 1)).2.2≠0\/isWd (uq (s.drop 1)).1\/refQ (uq (s.drop 1)).1≠(s.drop 1).take (uq (s.drop 1)).2.1 then (Dv,0)
  else (⟨false,(uq (s.drop 1)).1,0⟩,(uq (s.drop 1)).2.1+1)
 else (Dv,0)
theorem Jni {s:List UInt8} (h:(uq s).2.2=0):valid (uq s).1=true/\(uq s).1.length+2<=(uq s).2.1/\(refQ (uq s).1).length<=(uq s).2.1/\(uq s).2.1<=s.length :=
 Jmq (s:=s) (x:=(uq s).1) (n:=(uq s).2.1) (by rw [<- h])
theorem Jl8 (s:List UInt8):valid (uq s).1=true/\(uq s).1.length<=s.length/\(uq s).2.1<=s.length:=by
 rcases Jcv s with h | ⟨h1,h2,h3⟩
 ·have:=Jni h.1;exact ⟨this.1,by omega,by omega⟩
 ·rw [h2];exact ⟨rfl,Eav _,h3⟩
theorem Ja3 (s:List UInt8) (hs:s.length<=1000000) (h0:¬ s.take 1=[46]):Det cx 147 [.p (.str s)] [] (.tup [.agg Dv.cells,.int .i64 0]) []:=by
 (refine bgo Tryz.func147 ?_;simp only [go_sem,simprocAttr]);(repeat' (first|(apply iteI<;>intro h)|((refine Jqa (Bj s [46] hs sm) ?_);simp only [go_sem,simprocAttr])|fail))
 ·rfl
 ·exact absurd h0 (by assumption)
theorem Vu (s:List UInt8) (hs:s.length<=1000000) (h0:s.take 1=[46]) (h2:0<Dm (s.drop 1)):Det cx 147 [.p (.str s)] [] (.tup [.agg (Step.cells ⟨false,(s.drop 1).take (Dm (s.drop 1)),0⟩),.int .i64 (Dm (s.drop 1)+1:Nat)]) []:=by
 have h1:1<=s.length:=by cases s <;> simp at h0 ⊢
 have hw:=P3 (s.drop 1);rw [Ea4] at hw;(refine bgo Tryz.func147 ?_;simp only [go_sem,simprocAttr,wi1 (i:=Dm (s.drop 1)) omg]);(repeat' (first|(apply iteI<;>intro h)|refine Jqj ?_|((first|(refine Jqa (Bj s [46] hs sm) ?_)|(refine Jqa (Nw (s.drop 1) (by simp;omega)) ?_));simp only [go_sem,simprocAttr,h0,wi1 (i:=Dm (s.drop 1)) omg])|(exfalso;omega)));rfl
theorem Ev (s:List UInt8) (hs:s.length<=1000000):Det cx 147 [.p (.str s)] [] (.tup [.agg (Bw s).1.cells,.int .i64 (Bw s).2]) []:=by
 by_cases h0:s.take 1=[46]
 ·have h1:1<=s.length:=by cases s <;> simp at h0 ⊢
  by_cases h2:0<Dm (s.drop 1)
  ·have e:Bw s=(⟨false,(s.drop 1).take (Dm (s.drop 1)),0⟩,Dm (s.drop 1)+1):=by unfold Bw;rw [if_pos h0,if_pos h2]
   rw [e];exact Vu s hs h0 h2
  ·obtain ⟨u1,u2,u3⟩:=Jl8 (s.drop 1);rw [Ea4] at u2 u3;have hw:Dm (s.drop 1)=0:=by omega
   have w1:IntKind.i64.wrap (1+((uq (s.drop 1)).2.1:Int))=(((uq (s.drop 1)).2.1+1:Nat):Int):=by rw [Int.add_comm];exact wi1 omg
   have no:((uq (s.drop 1)).2.2≠0\/isWd (uq (s.drop 1)).1\/refQ (uq (s.drop 1)).1≠(s.drop 1).take (uq (s.drop 1)).2.1)->Bw s=(Dv,0):=fun h=>by
    unfold Bw;rw [if_pos h0,if_neg h2,if_pos h]
   (refine bgo Tryz.func147 ?_;simp only [go_sem,simprocAttr,wi1 (i:=(uq (s.drop 1)).2.1) omg]);(repeat' (first|(apply iteI<;>intro h)|refine Jqj ?_|((first|refine Jqm ?_|(refine Jqa (Bj s [46] hs sm) ?_)|(refine Jqa (Nw (s.drop 1) (by simp;omega)) ?_)|(refine Jqa (Ts (s.drop 1) (by simp;omega)) ?_)|(refine Jqb (Er (uq (s.drop 1)).1 omg) ?_)|(refine Jqb (Kt (uq (s.drop 1)).1 omg u1) ?_));simp only [go_sem,simprocAttr,h0,hw,w1,wi1 (i:=(uq (s.drop 1)).2.1) omg])|fail))
   ·rw [no (.inl omg)];exact ⟨rfl,rfl⟩
   ·rw [no (.inr (.inl (by assumption)))];exact ⟨rfl,rfl⟩
   ·rw [no (.inr (.inr (by assumption)))];exact ⟨rfl,rfl⟩
   ·have e:Bw s=(⟨false,(uq (s.drop 1)).1,0⟩,(uq (s.drop 1)).2.1+1):=by
     unfold Bw;rw [if_pos h0,if_neg h2,if_neg];rintro (h | h | h)
     ·omega
     ·contradiction
     ·exact absurd h (by assumption)
    rw [e];exact ⟨rfl,rfl⟩
 ·have e:Bw s=(Dv,0):=by unfold Bw;rw [if_neg h0]
  rw [e];exact Ja3 s hs h0
def eI (s:List UInt8):Int:=Lib.indexByte s (93:Int).toNat.toUInt8
def pT (s:List UInt8):List UInt8:=(s.drop 1).take ((eI s).toNat - 1)
theorem Jea {s:List UInt8} {e:Nat} (h:eI s=e):e<s.length:=by
 have:=(Lib.indexByte_some h).1;exact (Eab.1 this).1
def Ce (s:List UInt8):Step×Nat :=
 if s.take 1=[91]/\2<=eI s/\eI s<=8 then
  match Lib.atoiAll (pT s) with
  | .ok n=>if 0<=n/\n<=1000000/\Lib.itoa n=pT s then (⟨true,[],n⟩,(eI s).toNat+1) else (Dv,0)
  | _=>(Dv,0)
 else (Dv,0)
theorem Gg (s:List UInt8):Det cx 190 [.p (.str s),.p (.int .u8 93)] [] (.p (.int .i64 (eI s))) []:=Fu s 93
theorem Jhg (s:List UInt8) (hs:s.length<=1000000) (h0:¬ (s.take 1=[91]/\2<=eI s/\eI s<=8)):Det cx 149 [.p (.str s)] [] (.tup [.agg Dv.cells,.int .i64 0]) []:=by
 (refine bgo Tryz.func149 ?_;simp only [go_sem,simprocAttr]);(repeat' (first|(apply iteI<;>intro h)|refine Jqj ?_|((first|(refine Jqa (Gg s) ?_)|(refine Jqa (Bj s [91] hs sm) ?_));simp only [go_sem,simprocAttr])|fail))
 ·rfl
 ·rfl
 ·rfl
 ·exact absurd ⟨Ea1.1 (by assumption),by omega,by omega⟩ h0
theorem Q1 (s:List UInt8) (hs:s.length<=1000000) (e:Nat) (he:eI s=e) (h0:s.take 1=[91]) (h1:2<=e) (h2:e<=8) (h3:∃ a,Qh ((s.drop 1).take (e - 1))=.tup [.int .i64 a,.ifc]):Det cx 149 [.p (.str s)] [] (.tup [.agg Dv.cells,.int .i64 0]) []:=by
 obtain ⟨a,h3⟩:=h3;have hl:=Jea he;(refine bgo Tryz.func149 ?_;simp only [go_sem,simprocAttr]);(repeat' (first|(apply iteI<;>intro h)|refine Jqj ?_|((first|refine Jqm ?_|(refine Jqa (Gg s) ?_)|(refine Jqa (Bj s [91] hs sm) ?_)|(refine Jqa (U9 ((s.drop 1).take (e - 1)) (by simp;omega)) ?_));simp only [go_sem,simprocAttr,h0,he,h3])|(exfalso;omega)));rfl
theorem Jgb (s:List UInt8) (hs:s.length<=1000000) (e:Nat) (he:eI s=e) (h0:s.take 1=[91]) (h1:2<=e) (h2:e<=8) (n:Int) (hn:n<=9223372036854775807) (hn0:-9223372036854775808<=n) (h3:Qh ((s.drop 1).take (e - 1))=.tup [.int .i64 n,.nifc]):Det cx 149 [.p (.str s)] [] (.tup [.agg (if 0<=n/\n<=1000000/\Lib.itoa n=(s.drop 1).take (e - 1) then (⟨true,[],n⟩,e+1) else (Dv,0):Step×Nat).1.cells,.int .i64 (if 0<=n/\n<=1000000/\Lib.itoa n=(s.drop 1).take (e - 1) then (⟨true,[],n⟩,e+1) else (Dv,0):Step×Nat).2]) []:=by
 have hl:=Jea he;(refine bgo Tryz.func149 ?_;simp only [go_sem,simprocAttr,wi1 (i:=e) omg]);(repeat' (first|(apply iteI<;>intro h)|refine Jqj ?_|((first|refine Jqm ?_|(refine Jqa (Gg s) ?_)|(refine Jqa (Bj s [91] hs sm) ?_)|(refine Jqa (U9 ((s.drop 1).take (e - 1)) (by simp;omega)) ?_)|(refine Jqb (N0 n hn0 hn) ?_));simp only [go_sem,simprocAttr,h0,he,h3,wi1 (i:=e) omg])|(exfalso;omega)))
 ·rw [if_neg omg];exact ⟨rfl,rfl⟩
 ·rw [if_neg (fun h=>absurd h.2.2 (by assumption))];exact ⟨rfl,rfl⟩
 ·rw [if_neg omg];exact ⟨rfl,rfl⟩
 ·rw [if_pos ⟨by omega,by omega,Ea1.1 (by assumption)⟩];exact ⟨rfl,rfl⟩
theorem Jr (s:List UInt8) (hs:s.length<=1000000):Det cx 149 [.p (.str s)] [] (.tup [.agg (Ce s).1.cells,.int .i64 (Ce s).2]) []:=by
 by_cases h:s.take 1=[91]/\2<=eI s/\eI s<=8
 ·obtain ⟨h0,h1,h2⟩:=h;obtain ⟨e,he⟩:∃ e:Nat,eI s=e:=⟨(eI s).toNat,by omega⟩
  have hl:=Jea he;have hT:pT s=(s.drop 1).take (e - 1):=by unfold pT;rw [he];rfl
  unfold Ce;rw [if_pos ⟨h0,h1,h2⟩,hT,he];cases ha:Lib.atoiAll ((s.drop 1).take (e - 1)) with
  | ok n =>
   have hb:=Lib.atoiAll_bounds ha;exact Jgb s hs e he h0 omg omg n hb.2 hb.1 (by unfold Qh;rw [ha])
  | range=>exact Q1 s hs e he h0 omg omg ⟨_,by unfold Qh;rw [ha]⟩
  | _=>exact Q1 s hs e he h0 omg omg ⟨_,by unfold Qh;rw [ha]⟩
 ·unfold Ce;rw [if_neg h];exact Jhg s hs h
end Go.LX
namespace Go.LX
open Go Go.RowKit Go.Proofs
def PLe (x y:PV):Prop:=x=y\/(x=.snil/\y=.sl [])
def psLe:List PV->List PV->Prop
 | [],[]=>True
 | x :: xs,y :: ys=>PLe x y/\psLe xs ys
 | _,_=>False
theorem PLe.refl (x:PV):PLe x x:=.inl rfl
theorem PLe.nil:PLe .snil (.sl []):=.inr ⟨rfl,rfl⟩
theorem PLe.rep {w:World} {Im:Nat->Prop} {v:Value} {x y:PV} (h:PLe x y) (hr:PRep w Im v x):PRep w Im v y:=by
 rcases h with rfl | ⟨rfl,rfl⟩
 ·exact hr
 ·cases hr;exact PRep.slNil
theorem T7:∀ {a b:List PV},psLe a b->a.length=b.length/\∀ (i:Nat) (y:PV),b[i]? = some y->∃ x,a[i]? = some x/\PLe x y
 | [],[],_=>⟨rfl,fun i l' h=>by simp at h⟩
 | x :: a,y :: b,h=>by
  obtain ⟨h1,h2⟩:=h;obtain ⟨h3,h4⟩:=T7 h2;refine ⟨by simp [h3],fun i l' hl=>?_⟩;cases i with
  | zero=>simp at hl;subst hl;exact ⟨x,rfl,h1⟩
  | succ i=>simp at hl;simpa using h4 i l' hl
 | [],_ :: _,h=>h.elim
 | _ :: _,[],h=>h.elim
def OLe (l l':L):Prop:=l=l'\/(∃ x y,l=.p x/\l'=.p y/\PLe x y)\/∃ a b,l=.tup a/\l'=.tup b/\psLe a b
theorem OLe.rep {β:Env} {w:World} {Im:Nat->Prop} {v:Value} {l l':L} (h:OLe l l') (hr:LRep β w Im v l):LRep β w Im v l':=by
 rcases h with rfl | ⟨x,y,rfl,rfl,h⟩ | ⟨a,b,rfl,rfl,h⟩
 ·exact hr
 ·exact h.rep hr
 ·obtain ⟨vs,h1,h2,h3⟩:=hr;obtain ⟨g1,g2⟩:=T7 h;refine ⟨vs,h1,by rw [h2,g1],fun i x p hx hp=>?_⟩;obtain ⟨q,hq,hle⟩:=g2 i p hp;exact hle.rep (h3 i x q hx hq)
theorem Al.weak {X:Cx} {f:FuncId} {args:List L} {rs:Regs} {Post Post':L->Regs->Prop} (h:Al X f args rs Post) (hp:∀ l q,Post l q->∃ l',OLe l l'/\Post' l' q):Al X f args rs Post' :=
 ⟨h.1,fun β Im w vs hg hf=>(h.2 β Im w vs hg hf).mono fun _ _ ⟨v,l,rs',β',Im',he,hP,hr,hc⟩=>by
  obtain ⟨l',h1,h2⟩:=hp _ _ hP;exact ⟨v,l',rs',β',Im',he,h2,h1.rep hr,hc⟩⟩
theorem Det.weak {X:Cx} {f:FuncId} {args:List L} {rs rs':Regs} {l':L} (h:Al X f args rs fun m q=>OLe m l'/\q=rs'):Det X f args rs l' rs' :=
 h.weak fun l q ⟨h1,h2⟩=>⟨l',h1,rfl,h2⟩
theorem Jsf {a b:List PV} (h:psLe a b):OLe (.tup a) (.tup b):=.inr (.inr ⟨_,_,rfl,rfl,h⟩)
attribute [local irreducible] Al Bi SWP
def Ee (s:List UInt8) (i:Nat):Step×Nat :=
 if (Bw (s.drop i)).2≠0 then Bw (s.drop i)
 else if i=0 then (if s.take 1=[46]/\(Ce (s.drop 1)).2≠0 then ((Ce (s.drop 1)).1,(Ce (s.drop 1)).2+1) else (Dv,0))
 else Ce (s.drop i)
def Fl (s:List UInt8):Nat->Nat->List Step->List Step×Nat
 | 0,i,p=>(p,i)
 | f+1,i,p=>if i<s.length/\p.length<20/\(Ee s i).2≠0 then Fl s f (i+(Ee s i).2) (p ++ [(Ee s i).1]) else (p,i)
def Mp (s:List UInt8):List Step×Nat:=Fl s (s.length+1) 0 []
def Je (s:List UInt8):List Step×Nat×Nat :=
 if s=[46] then ([],0,0)
 else if (Mp s).2<s.length\/(Mp s).1.length=0 then ([],(Mp s).2,1)
 else ((Mp s).1,0,0)
theorem Jf2 (s:List UInt8):(Bw s).2<=s.length:=by
 unfold Bw;split
 ·rename_i h0;have h1:1<=s.length:=by cases s <;> simp at h0 ⊢
  have hw:=P3 (s.drop 1);have hu:=(Jl8 (s.drop 1)).2.2;rw [Ea4] at hw hu;split
  ·simp only;omega
  ·split <;> simp only <;> omega
 ·exact Eav _
theorem Zo (s:List UInt8):(Ce s).2<=s.length:=by
 unfold Ce;split
 ·rename_i h;obtain ⟨e,he⟩:∃ e:Nat,eI s=e:=⟨(eI s).toNat,by omega⟩
  have hl:=Jea he;split
  ·split
   ·simp only;omega
   ·exact Eav _
  ·exact Eav _
 ·exact Eav _
theorem Jzk {s:List UInt8} {i:Nat} (h:i<=s.length):i+(Ee s i).2<=s.length:=by
 have h1:=Jf2 (s.drop i);have h2:=Zo (s.drop i);have h3:=Zo (s.drop 1);rw [Ea4] at h1 h2 h3;unfold Ee;split
 ·omega
 ·split
  ·subst i;split
   ·rename_i h0;have h1:1<=s.length:=by have:=h0.1;cases s <;> simp at this ⊢
    simp only;omega
   ·simp only;omega
  ·omega
theorem Gv {s:List UInt8} {f i:Nat} {p:List Step} (h:¬ (i<s.length/\p.length<20/\(Ee s i).2≠0)):Fl s f i p=(p,i):=by
 cases f with
 | zero=>rfl
 | succ f=>rw [Fl,if_neg h]
theorem Kn (p q:List Step):Bb (p ++ q)=Bb p ++ Bb q:=by simp [Bb]
theorem Jjx (s:List UInt8) (hs:s.length<=1000000):Det cx 99 [.p (.str s)] [] (.tup [.sl (Bb (Je s).1),.int .i64 (Je s).2.1,.int .i64 (Je s).2.2]) []:=by
 refine Det.weak ?_;by_cases hd:s=[46]
 ·subst hd;(refine bgo Tryz.func99 ?_;simp only [go_sem,simprocAttr]);exact Jsf ⟨.nil,.refl _,.refl _,trivial⟩
 ·have hd':(s=[46])=False:=eq_false hd;(refine bgo Tryz.func99 ?_;simp only [go_sem,simprocAttr,hd']);refine Jqg (Jrw _ (i:=5) (d:=59) 63 3 (.inl de) rfl) ?_;simp only [St.nilOwn,St.nilReg,go_sem,simprocAttr,hd'];refine SWP.loop (fun x:Nat×Nat×List Step=>⟨Ba 74 [(0,.p (.str s)),(5,.own 59 0 x.2.2.length),(6,.p (.int .i64 x.1))],[(59,.row 63 3 (Bb x.2.2))]⟩) (fun x=>x.1<=s.length/\s.length+1<=x.1+x.2.1/\x.2.2.length<=20/\Fl s x.2.1 x.1 x.2.2=Mp s) (fun x=>s.length - x.1) (0,s.length+1,[]) (by rw [show Bb []=[] from rfl];exact Jqc) ⟨Eav _,by simp,by simp,rfl⟩ ?_;rintro ⟨i,f,p⟩ ⟨h1,h2,h3,h4⟩;simp only at h1 h2 h3 h4;have hf:=Jf2 (s.drop i);have hp:=Zo (s.drop i);rw [Ea4] at hf hp;have wl (n:Nat) (hn:n<=3000000):IntKind.i64.wrap ((i:Int)+(n:Int))=((i+n:Nat):Int):=Aa omg omg;have bad:Fl s f i p=(p,i)->(i<s.length\/p.length=0)->Je s=([],i,1):=fun h h'=>by
   rw [h] at h4;unfold Je;rw [if_neg hd,<- h4,if_pos h']
  have good:Fl s f i p=(p,i)->¬ (i<s.length\/p.length=0)->Je s=(p,0,0):=fun h h'=>by
   rw [h] at h4;unfold Je;rw [if_neg hd,<- h4,if_neg h']
  have htk:(Bb p).take p.length=Bb p:=Ead sm;by_cases hc:¬ (i<s.length/\p.length<20)
  ·have hst:Fl s f i p=(p,i):=Gv fun h=>hc ⟨h.1,h.2.1⟩
   (refine lws ?_;simp only [go_sem,simprocAttr,Aq,htk,Eai]);(repeat' (first|(apply iteI<;>intro h)|refine Jqj ?_|(exfalso;omega)))
   ·rw [bad hst omg];exact Jsf ⟨.nil,.refl _,.refl _,trivial⟩
   ·rw [bad hst omg];exact Jsf ⟨.nil,.refl _,.refl _,trivial⟩
   ·rw [good hst omg];exact .inl rfl
  ·have hc:=Ea1.1 hc;have hdl:(s.drop i).length<=1000000:=by rw [Ea4];omega
   obtain ⟨g,rfl⟩:∃ g,f=g+1:=⟨f - 1,by omega⟩
   by_cases hfi:(Bw (s.drop i)).2≠0
   ·have hn:Ee s i=Bw (s.drop i):=by unfold Ee;rw [if_pos hfi]
    have hel:Bb p ++ [(Bw (s.drop i)).1.cells]=Bb (p ++ [(Bw (s.drop i)).1]):=by rw [Kn];rfl
    rw [Fl,hn,if_pos ⟨hc.1,hc.2,hfi⟩] at h4;have hw:=wl (Bw (s.drop i)).2 omg;have hel':Bb p ++ [[.bool (Bw (s.drop i)).1.part,.str (Bw (s.drop i)).1.name,.int .i64 (Bw (s.drop i)).1.n]]=Bb (p ++ [(Bw (s.drop i)).1]):=hel;(refine lws ?_;simp only [go_sem,simprocAttr,Aq,htk,Eai,Aq,htk,Eai]);(repeat' (first|(apply iteI<;>intro h)|refine Jqj ?_|((refine Jqa (Ev (s.drop i) hdl) ?_);simp only [go_sem,simprocAttr,Aq,htk,Eai,Aq,htk,Eai,Step.cells,hel',hw])|(exfalso;omega)));refine ⟨by simp,by omega,by omega,(i+(Bw (s.drop i)).2,g,p ++ [(Bw (s.drop i)).1]),⟨by simp only;omega,by simp only;omega,by simp only [Eac,List.length_singleton];omega,h4⟩,by simp only;omega,?_⟩;simp only [Eac,List.length_singleton];exact Jqc
   ·have hf0:(Bw (s.drop i)).2=0:=by omega
    have w01:IntKind.i64.wrap 1=1:=by decide
    rw [Fl] at h4;by_cases hi:i=0
    ·have hi0:(i:Int)=0:=by omega
     have e0:s.drop i=s:=by rw [hi];rfl
     rw [e0] at hf0;by_cases hdot:s.take 1=[46]
     ·have hd1:(s.drop 1).length<=1000000:=by rw [Ea4];omega
      have hp1:=Zo (s.drop 1);have hs1:1<=s.length:=by cases s <;> simp at hdot ⊢
      rw [Ea4] at hp1;by_cases hpz:(Ce (s.drop 1)).2=0
      ·have hn:(Ee s i).2=0:=by unfold Ee;rw [if_neg hfi,if_pos hi,if_neg (fun h=>h.2 hpz)]
       have hst:Fl s (g+1) i p=(p,i):=Gv fun h=>h.2.2 hn
       have hel':=hi0;have hw:=hpz;(refine lws ?_;simp only [go_sem,simprocAttr,Aq,htk,Eai,Aq,htk,Eai,hel',Aq,htk,Eai,hel']);(repeat' (first|(apply iteI<;>intro h)|refine Jqj ?_|((first|(refine Jqa (Ev s hs) ?_)|(refine Jqa (Bj s [46] hs sm) ?_)|(refine Jqa (Jr (s.drop 1) hd1) ?_));simp only [go_sem,simprocAttr,Aq,htk,Eai,Aq,htk,Eai,Step.cells,hw,Aq,htk,Eai,Step.cells,hw,hf0,hdot,w01])|(exfalso;omega)));rw [bad hst omg,hi];exact Jsf ⟨.nil,.refl _,.refl _,trivial⟩
      ·have hn:Ee s i=((Ce (s.drop 1)).1,(Ce (s.drop 1)).2+1):=by unfold Ee;rw [if_neg hfi,if_pos hi,if_pos ⟨hdot,hpz⟩]
       rw [hn,if_pos ⟨hc.1,hc.2,Nat.succ_ne_zero _⟩] at h4;have hst:IntKind.i64.wrap (((Ce (s.drop 1)).2:Int)+1)=(((Ce (s.drop 1)).2+1:Nat):Int):=wi1 omg;have hel':Bb p ++ [[.bool (Ce (s.drop 1)).1.part,.str (Ce (s.drop 1)).1.name,.int .i64 (Ce (s.drop 1)).1.n]]=Bb (p ++ [(Ce (s.drop 1)).1]):=by rw [Kn];rfl
       have hw:=hi0;(refine lws ?_;simp only [go_sem,simprocAttr,Aq,htk,Eai,Aq,htk,Eai,hw,Aq,htk,Eai,hw]);(repeat' (first|(apply iteI<;>intro h)|refine Jqj ?_|((first|(refine Jqa (Ev s hs) ?_)|(refine Jqa (Bj s [46] hs sm) ?_)|(refine Jqa (Jr (s.drop 1) hd1) ?_));simp only [go_sem,simprocAttr,Aq,htk,Eai,Aq,htk,Eai,Step.cells,hel',Aq,htk,Eai,Step.cells,hel',hf0,hdot,w01,hst])|(exfalso;omega)));refine ⟨by simp,by omega,by omega,(i+((Ce (s.drop 1)).2+1),g,p ++ [(Ce (s.drop 1)).1]),⟨by simp only;omega,by simp only;omega,by simp only [Eac,List.length_singleton];omega,h4⟩,by simp only;omega,?_⟩;simp only [Eac,List.length_singleton];rw [hi];generalize Ce (s.drop 1)=P at *
       exact Jqc
     ·have hn:(Ee s i).2=0:=by unfold Ee;rw [if_neg hfi,if_pos hi,if_neg (fun h=>hdot h.1)]
      have hst:Fl s (g+1) i p=(p,i):=Gv fun h=>h.2.2 hn
      have hel':=hi0;have hw:=hdot;(refine lws ?_;simp only [go_sem,simprocAttr,Aq,htk,Eai,Aq,htk,Eai,hel',Aq,htk,Eai,hel']);(repeat' (first|(apply iteI<;>intro h)|((first|(refine Jqa (Ev s hs) ?_)|(refine Jqa (Bj s [46] hs sm) ?_));simp only [go_sem,simprocAttr,Aq,htk,Eai,Aq,htk,Eai,Step.cells,hw,Aq,htk,Eai,Step.cells,hw,hf0])|(exfalso;omega)));rw [bad hst omg,hi];exact Jsf ⟨.nil,.refl _,.refl _,trivial⟩
    ·by_cases hpz:(Ce (s.drop i)).2=0
     ·have hn:(Ee s i).2=0:=by unfold Ee;rw [if_neg hfi,if_neg hi,hpz]
      have hst:Fl s (g+1) i p=(p,i):=Gv fun h=>h.2.2 hn
      have hel':=hpz;have hw:IntKind.i64.wrap ((i:Int)+0)=(i:Int):=by rw [Int.add_zero];exact Aa omg omg
      have hdot:=hi;(refine lws ?_;simp only [go_sem,simprocAttr,Aq,htk,Eai,Aq,htk,Eai,Aq,htk,Eai]);(repeat' (first|(apply iteI<;>intro h)|refine Jqj ?_|((first|(refine Jqa (Ev (s.drop i) hdl) ?_)|(refine Jqa (Jr (s.drop i) hdl) ?_));simp only [go_sem,simprocAttr,Aq,htk,Eai,Aq,htk,Eai,Step.cells,hel',hw,Aq,htk,Eai,Step.cells,hel',hw,hf0])|(exfalso;omega)));rw [bad hst omg];exact Jsf ⟨.nil,.refl _,.refl _,trivial⟩
     ·have hn:Ee s i=Ce (s.drop i):=by unfold Ee;rw [if_neg hfi,if_neg hi]
      have hel':Bb p ++ [[.bool (Ce (s.drop i)).1.part,.str (Ce (s.drop i)).1.name,.int .i64 (Ce (s.drop i)).1.n]]=Bb (p ++ [(Ce (s.drop i)).1]):=by rw [Kn];rfl
      rw [hn,if_pos ⟨hc.1,hc.2,hpz⟩] at h4;have hw:IntKind.i64.wrap ((i:Int)+0)=(i:Int):=by rw [Int.add_zero];exact Aa omg omg
      have hdot:=hi;have hst:=wl (Ce (s.drop i)).2 omg;have w01:IntKind.i64.wrap (((Ce (s.drop i)).2:Int)+0)=((Ce (s.drop i)).2:Int):=by rw [Int.add_zero];exact Aa omg omg
      (refine lws ?_;simp only [go_sem,simprocAttr,Aq,htk,Eai,Aq,htk,Eai,Aq,htk,Eai]);(repeat' (first|(apply iteI<;>intro h)|refine Jqj ?_|((first|(refine Jqa (Ev (s.drop i) hdl) ?_)|(refine Jqa (Jr (s.drop i) hdl) ?_));simp only [go_sem,simprocAttr,Aq,htk,Eai,Aq,htk,Eai,Step.cells,hel',hw,Aq,htk,Eai,Step.cells,hel',hw,hf0,w01,hst])|(exfalso;omega)));refine ⟨by simp,by omega,by omega,(i+((Ce (s.drop i)).2),g,p ++ [(Ce (s.drop i)).1]),⟨by simp only;omega,by simp only;omega,by simp only [Eac,List.length_singleton];omega,h4⟩,by simp only;omega,?_⟩;simp only [Eac,List.length_singleton];exact Jqc
def Bv (x:Step):List UInt8:=if x.part=true then 91 :: (Lib.itoa x.n ++ [93]) else if isWd x.name then 46 :: x.name else 46 :: refQ x.name
def Br (p:List Step):List UInt8:=p.flatMap Bv
def Hy (p:List Step):List UInt8:=match p with
 | []=>[46]
 | x :: _=>if x.part=true then 46 :: Br p else Br p
def textR (p:List Step):List UInt8:=match p with
 | []=>[]
 | x :: _=>if x.part=true then 46 :: Br p else Br p
def isDg (c:Nat):Prop:=48<=c/\c<=57
instance (c:Nat):Decidable (isDg c):=inferInstanceAs (Decidable (_/\_))
def dgR:Nat->List UInt8->List UInt8
 | k+1,c :: r=>if isDg c.toNat then c :: dgR k r else []
 | _,_=>[]
def valD (l:List UInt8):Nat:=l.foldl (fun a c=>a * 10+(c.toNat - 48)) 0
def p10:Nat->Nat
 | 0=>1
 | k+1=>10 * p10 k
theorem Kfk:∀ k,k<8->p10 k<=10000000:=by decide
theorem Zl (l:List UInt8) (c:UInt8):valD (l ++ [c])=valD l * 10+(c.toNat - 48):=by simp [valD]
theorem Kbm:∀ (n:Nat) (l:List UInt8),l.length=n->(∀ c∈l,isDg c.toNat)->valD l<p10 n
 | 0,l,h,_=>by rw [Eal h];decide
 | n+1,l,h,hd=>by
  have hne:l≠[]:=fun e=>by subst e;simp at h
  rw [<- Ece hne,Zl];have h1:=Kbm n l.dropLast (by rw [List.length_dropLast];omega) (fun c hc=>hd c (List.dropLast_subset _ hc));have h2:=hd _ (List.getLast_mem hne);unfold isDg at h2;rw [p10];omega
theorem Jc6:∀ (k:Nat) (l:List UInt8),∀ c∈dgR k l,isDg c.toNat
 | 0,l=>by simp [dgR]
 | k+1,[]=>by simp [dgR]
 | k+1,c :: r=>by
  intro d hd;rw [dgR] at hd;split at hd
  ·rcases Eaj.1 hd with rfl | hd
   ·assumption
   ·exact Jc6 k r d hd
  ·cases hd
theorem Jd2:∀ (k:Nat) (l:List UInt8),(dgR k l).length<=k/\(dgR k l).length<=l.length
 | 0,l=>by simp [dgR]
 | k+1,[]=>by simp [dgR]
 | k+1,c :: r=>by
  rw [dgR];split
  ·have:=Jd2 k r;simp;omega
  ·simp
theorem Jdy:∀ (k:Nat) (l:List UInt8),dgR k l=l.take (dgR k l).length
 | 0,l=>by simp [dgR]
 | k+1,[]=>by simp [dgR]
 | k+1,c :: r=>by
  rw [dgR];split
  ·rw [List.length_cons,List.take_succ_cons,<- Jdy k r]
  ·simp
def figS (s:List UInt8) (i:Nat):Int×Nat :=
 if (dgR 7 (s.drop i)).length=0\/(at_ s i=48/\1<(dgR 7 (s.drop i)).length)\/1000000<valD (dgR 7 (s.drop i)) then (-1,i)
 else (valD (dgR 7 (s.drop i)),i+(dgR 7 (s.drop i)).length)
theorem Kf1 {s:List UInt8} {i k:Nat} (hi:i<s.length) (hd:isDg (at_ s i)) (hk:0<k):dgR k (s.drop i)=s[i] :: dgR (k - 1) (s.drop (i+1)):=by
 rw [Eax hi];obtain ⟨j,rfl⟩:∃ j,k=j+1:=⟨k - 1,by omega⟩
 rw [dgR,if_pos (by rw [Jxv (Eaa hi)] at hd;exact hd)];rfl
theorem Kfg {s:List UInt8} {i k:Nat} (h:¬ (i<s.length/\isDg (at_ s i)/\0<k)):dgR k (s.drop i)=[]:=by
 by_cases hi:i<s.length
 ·rw [Eax hi];cases k with
  | zero=>rfl
  | succ j=>rw [dgR,if_neg (fun hd=>h ⟨hi,by rw [Jxv (Eaa hi)];exact hd,by omega⟩)]
 ·rw [Ear omg];cases k <;> rfl
theorem J4z (s:List UInt8) (i:Nat) (hs:s.length<=1000000) (hi:i<=s.length):Det cx 221 [.p (.str s),.p (.int .i64 i)] [] (.tup [.int .i64 (figS s i).1,.int .i64 (figS s i).2]) []:=by
 (refine bgo Tryz.func221 ?_;simp only [go_sem,simprocAttr]);refine SWP.loop (fun x:Nat×List UInt8=>⟨Ba 63 [(0,.p (.str s)),(1,.p (.int .i64 (i+x.1:Nat))),(6,.p (.int .i64 (valD x.2))),(7,.p (.int .i64 i))],[]⟩) (fun x=>x.1<=7/\i+x.1<=s.length/\x.2.length=x.1/\(∀ c∈x.2,isDg c.toNat)/\x.2 ++ dgR (7 - x.1) (s.drop (i+x.1))=dgR 7 (s.drop i)) (fun x=>7 - x.1) (0,[]) (by rw [show valD []=0 from rfl];exact Jqc) ⟨by simp,by simp only;omega,rfl,by simp,by simp⟩ ?_;rintro ⟨k,l⟩ ⟨h1,h2,h3,h4,h5⟩;simp only at h1 h2 h3 h4 h5;have hv:=Kbm k l h3 h4;have hp:=Kfk k omg;have hw:IntKind.i64.wrap (((i+k:Nat):Int) - (i:Int))=(k:Int):=by rw [Aa omg omg];omega
 have hstop:¬ (i+k<s.length/\isDg (at_ s (i+k))/\0<7 - k)->dgR 7 (s.drop i)=l:=fun h=>by
  rw [Kfg h,Eaz] at h5;exact h5.symm
 (refine lws ?_;simp only [go_sem,simprocAttr,hw,wi1 (i:=i) omg]);(repeat' (first|(apply iteI<;>intro h)|refine Jqj ?_|(exfalso;omega)))
 all_goals first
  | (exfalso;omega)
  | (
   have e:=hstop (by unfold isDg;omega);unfold figS;rw [e,if_pos omg];exact ⟨rfl,rfl⟩)
  | (
   have e:=hstop (by unfold isDg;omega);unfold figS;rw [e,if_neg omg,h3];exact ⟨rfl,rfl⟩)
  | skip
 have hlt:i+k<s.length:=by omega
 have hd:isDg (at_ s (i+k)):=by unfold isDg;omega
 have hat:at_ s (i+k)=(s[i+k]).toNat:=Jxv (Eaa hlt);rw [Kf1 hlt hd omg] at h5;have hp1:=Kfk (k+1) omg;rw [p10] at hp1;have hv1:IntKind.i64.wrap (IntKind.i64.wrap ((valD l:Int) * 10)+IntKind.i64.wrap (IntKind.u8.wrap ((at_ s (i+k):Int) - 48)))=((valD (l ++ [s[i+k]]):Nat):Int):=by
  rw [Zl,<- hat];unfold isDg at hd;simp (disch:=omega) only [Aa,Ab];omega
 rw [hv1];refine ⟨(k+1,l ++ [s[i+k]]),⟨by simp only;omega,by simp only;omega,by simp only [Eac,List.length_singleton];omega,?_,?_⟩,by simp only;omega,?_⟩
 ·intro c hc;rcases Eau.1 hc with hc | hc
  ·exact h4 c hc
  ·rw [Eay] at hc;subst hc;rw [<- hat];exact hd
 ·simp only;rw [<- h5,Ea2,List.singleton_append];rfl
 ·exact Jqc
theorem Fv (m:Nat):Lib.decDigits m=if m<10 then [UInt8.ofNat (48+m)] else Lib.decDigits (m / 10) ++ [UInt8.ofNat (48+m % 10)]:=by
 rw [Lib.decDigits];split <;> rfl
theorem Qj {m:Nat} (h:m<10):(UInt8.ofNat (48+m)).toNat=48+m:=by
 rw [UInt8.toNat_ofNat'];omega
theorem Jmj:∀ m:Nat,∀ c∈Lib.decDigits m,isDg c.toNat:=by
 intro m
 induction m using Nat.strongRecOn with
 | _ m ih =>
  intro c hc;rw [Fv] at hc;split at hc
  ·rw [Eay] at hc;subst hc;rw [Qj (by assumption)];unfold isDg;omega
  ·rcases Eau.1 hc with hc | hc
   ·exact ih (m / 10) omg c hc
   ·rw [Eay] at hc;subst hc;rw [Qj omg];unfold isDg;omega
theorem Xc:∀ m:Nat,valD (Lib.decDigits m)=m:=by
 intro m
 induction m using Nat.strongRecOn with
 | _ m ih =>
  rw [Fv];split
  ·show 0 * 10+((UInt8.ofNat (48+m)).toNat - 48)=m;rw [Qj (by assumption)];omega
  ·rw [Zl,ih (m / 10) omg,Qj omg];omega
theorem U6 (m:Nat):Lib.decDigits m≠[]:=by
 rw [Fv];split <;> simp
theorem Jg0:∀ m:Nat,∀ c r,Lib.decDigits m=c :: r->c.toNat=48->r=[]/\m=0:=by
 intro m
 induction m using Nat.strongRecOn with
 | _ m ih =>
  intro c r h hc;rw [Fv] at h;split at h
  ·cases h;rw [Qj (by assumption)] at hc;exact ⟨rfl,by omega⟩
  ·cases hd:Lib.decDigits (m / 10) with
   | nil=>exact absurd hd (U6 _)
   | cons d q =>
    rw [hd] at h;cases h;have:=(ih (m / 10) omg _ _ hd hc).2;omega
theorem Sa:∀ (n:Nat) (t:List UInt8),t.length=n+1->(∀ c∈t,isDg c.toNat)->(n=0\/at_ t 0≠48)->Lib.decDigits (valD t)=t/\(at_ t 0≠48->0<valD t)
 | 0,t,hl,hd,_=>by
  match t,hl with
  | [c],_ =>
   have hc:=hd c sm;unfold isDg at hc;have e:valD [c]=c.toNat - 48:=by show 0 * 10+(c.toNat - 48)=_;omega
   rw [e,Fv,if_pos omg];refine ⟨?_,fun h=>?_⟩
   ·congr 1;apply UInt8.toNat_inj.1;rw [Qj omg];omega
   ·have:at_ [c] 0=c.toNat:=rfl;omega
 | n+1,t,hl,hd,h0=>by
  have hne:t≠[]:=fun e=>by subst e;simp at hl
  have ht:=Ece hne;have hdl:t.dropLast.length=n+1:=by rw [List.length_dropLast];omega
  have ha0:at_ t.dropLast 0=at_ t 0:=by
   rw [<- ht];have:0<t.dropLast.length:=by omega
   simp only [at_,Eah,List.dropLast_concat];rw [Eaq this]
  have h1:=Sa n t.dropLast hdl (fun c hc=>hd c (List.dropLast_subset _ hc)) (.inr (by rw [ha0];omega));rw [ha0] at h1;have h2:=h1.2 omg;have h3:=hd _ (List.getLast_mem hne);unfold isDg at h3;have hv:valD t=valD t.dropLast * 10+((t.getLast hne).toNat - 48):=by
   conv=>lhs;rw [<- ht]
   rw [Zl]
  refine ⟨?_,fun _=>by omega⟩;rw [Fv,if_neg omg];have e1:valD t / 10=valD t.dropLast:=by omega
  have e2:UInt8.ofNat (48+valD t % 10)=t.getLast hne:=by
   apply UInt8.toNat_inj.1;rw [Qj omg];omega
  rw [e1,e2,h1.1,ht]
theorem Pj:∀ (l:List UInt8) (a:Nat),(∀ c∈l,isDg c.toNat)->Lib.decFrom a l=some (l.foldl (fun a c=>a * 10+(c.toNat - 48)) a)
 | [],a,_=>rfl
 | c :: r,a,h=>by
  have hc:=h c Eaf;unfold isDg at hc;rw [Lib.decFrom,Lib.digitVal,if_pos hc];exact Pj r _ fun d hd=>h d (Eag _ hd)
theorem Jbw {t:List UInt8} (hne:t≠[]) (hl:t.length<=7) (hd:∀ c∈t,isDg c.toNat):Lib.atoiAll t=.ok (valD t:Int):=by
 rw [Lib.atoiAll_short t omg];cases t with
 | nil=>exact absurd rfl hne
 | cons c r =>
  have hc:=hd c Eaf;unfold isDg at hc;have h45:¬ (c == 45)=true:=fun h=>by have:=beq_iff_eq.1 h;subst this;simp at hc
  have h43:¬ (c == 43)=true:=fun h=>by have:=beq_iff_eq.1 h;subst this;simp at hc
  rw [Lib.atoi,if_neg h45,if_neg h43,Lib.decNat,if_neg sm,Pj _ _ hd];rfl
theorem Jkf:∀ (T rest:List UInt8) (k:Nat),(∀ c∈T,isDg c.toNat)->T.length<=k->(∀ c q,rest=c :: q->¬ isDg c.toNat)->dgR k (T ++ rest)=T
 | [],rest,k,_,_,h=>by
  cases k with
  | zero=>rfl
  | succ k=>cases rest with
   | nil=>rfl
   | cons c q=>rw [List.nil_append,dgR,if_neg (h c q rfl)]
 | c :: T,rest,k,hd,hl,h=>by
  cases k with
  | zero=>simp at hl
  | succ k =>
   rw [List.cons_append,dgR,if_pos (hd c Eaf),Jkf T rest k (fun d hm=>hd d (Eag _ hm)) (by simp at hl;omega) h]
theorem eI_of {u:List UInt8} {e:Nat} (h:u[e]? = some 93) (hb:∀ j,j<e->u[j]? ≠ some 93):eI u=e:=by
 have hge:=Lib.indexByte_ge u ((93:Int).toNat.toUInt8);have hc:(93:Int).toNat.toUInt8=93:=rfl;by_cases hlt:eI u<0
 ·have:Lib.indexByte u ((93:Int).toNat.toUInt8) = -1:=by unfold eI at hlt;omega
  exact absurd h (Lib.indexByte_none this e)
 ·obtain ⟨o,ho⟩:∃ o:Nat,eI u=o:=⟨(eI u).toNat,by omega⟩
  obtain ⟨h1,h2⟩:=Lib.indexByte_some (show Lib.indexByte u ((93:Int).toNat.toUInt8)=o from ho);rw [hc] at h1 h2;rw [ho];rcases Nat.lt_trichotomy o e with hl | hl | hl
  ·exact absurd h1 (hb o hl)
  ·omega
  ·exact absurd h (h2 e hl)
theorem Jle {r:List UInt8} (h0:dgR 7 r≠[]) (h1:¬ (at_ r 0=48/\1<(dgR 7 r).length)) (h2:valD (dgR 7 r)<=1000000) (h3:r[(dgR 7 r).length]? = some 93) :
  Ce (91 :: r)=(⟨true,[],(valD (dgR 7 r):Nat)⟩,(dgR 7 r).length+2):=by
 have hl:=Jd2 7 r;have hp:=Jdy 7 r;have hall:=Jc6 7 r;generalize dgR 7 r=t at *
 have hlt:0<t.length:=Ecb.2 h0;have he:eI (91 :: r)=((t.length+1:Nat):Int):=by
  refine eI_of (by simpa using h3) fun j hj hjs=>?_
  cases j with
  | zero=>simp at hjs
  | succ j =>
   rw [List.getElem?_cons_succ] at hjs;have hjt:t[j]? = some 93:=by rw [hp,Ecl omg];exact hjs
   have:=hall 93 (Eae hjt);unfold isDg at this;simp at this
 have hT:pT (91 :: r)=t:=by
  unfold pT;rw [he,Eb1,Ebi];rw [show ((t.length+1:Nat):Int).toNat - 1=t.length by omega];exact hp.symm
 have ha0:at_ t 0=at_ r 0:=by
  rw [hp];simp only [at_,Eah];rw [Ecl omg]
 have hcan:=Sa (t.length - 1) t omg hall (by rw [ha0];omega);unfold Ce;rw [if_pos ⟨rfl,by omega,by omega⟩,hT,Jbw h0 hl.1 hall];simp only;rw [if_pos ⟨by omega,by omega,by rw [Lib.itoa_nonneg,hcan.1]⟩,he];rfl
theorem J2k {r:List UInt8} (h:(Ce (91 :: r)).2≠0):dgR 7 r≠[]/\¬ (at_ r 0=48/\1<(dgR 7 r).length)/\valD (dgR 7 r)<=1000000/\r[(dgR 7 r).length]? = some 93:=by
 unfold Ce at h;split at h
 case isFalse=>exact absurd rfl h
 rename_i hc;obtain ⟨-,hc1,hc2⟩:=hc;obtain ⟨e,he⟩:∃ e:Nat,eI (91 :: r)=e:=⟨(eI (91 :: r)).toNat,by omega⟩
 have hlt:=Jea he;have h93:=(Lib.indexByte_some (show Lib.indexByte (91 :: r) ((93:Int).toNat.toUInt8)=e from he)).1;rw [show (93:Int).toNat.toUInt8=93 from rfl] at h93;obtain ⟨k,rfl⟩:∃ k,e=k+1:=⟨e - 1,by omega⟩
 rw [List.getElem?_cons_succ] at h93;have hT:pT (91 :: r)=r.take k:=by
  unfold pT;rw [he,Eb1,Ebi];rw [show ((k+1:Nat):Int).toNat - 1=k by omega]
 rw [hT] at h;split at h
 case h_2=>exact absurd rfl h
 rename_i n _;split at h
 case isFalse=>exact absurd rfl h
 rename_i hn;obtain ⟨hn0,hn1,hn2⟩:=hn;obtain ⟨m,rfl⟩:∃ m:Nat,n=m:=⟨n.toNat,by omega⟩
 rw [Lib.itoa_nonneg] at hn2;have hkl:k<r.length:=(Eab.1 h93).1;have hlen:(Lib.decDigits m).length=k:=by rw [hn2,Eaw];omega
 have hrun:dgR 7 r=Lib.decDigits m:=by
  have:=Jkf (Lib.decDigits m) (r.drop k) 7 (Jmj m) omg (fun c q hcq=>by
   rw [Eax hkl] at hcq;cases hcq;have:=(Eab.1 h93).2;rw [this];unfold isDg;simp)
  rw [hn2,Ebl] at this;rw [this,hn2]
 rw [hrun,hlen,Xc];refine ⟨U6 m,fun ⟨g1,g2⟩=>?_,by omega,h93⟩;cases hd:Lib.decDigits m with
 | nil=>exact U6 m hd
 | cons c q =>
  have hr0:at_ r 0=c.toNat:=by
   have:(r.take k)[0]? = some c:=by rw [<- hn2,hd];rfl
   rw [Ecl omg] at this;exact Jxv this
  have:=(Jg0 m c q hd omg).1;subst this;rw [hd] at hlen;simp at hlen;omega
theorem Jx5 {u:List UInt8} (h:(Ce u).2=0):Ce u=(Dv,0):=by
 unfold Ce at h ⊢;by_cases c:u.take 1=[91]/\2<=eI u/\eI u<=8
 ·rw [if_pos c] at h ⊢;cases ha:Lib.atoiAll (pT u) with
  | ok n =>
   rw [ha] at h;simp only at h ⊢;by_cases d:0<=n/\n<=1000000/\Lib.itoa n=pT u
   ·rw [if_pos d] at h;cases h
   ·rw [if_neg d]
  | range=>rfl
  | _=>rfl
 ·rw [if_neg c]
def Juy (s:List UInt8) (i:Nat):Step×Nat :=
 if i<s.length/\at_ s i=91 then
  if 0<=(figS s (i+1)).1/\(figS s (i+1)).2<s.length/\at_ s (figS s (i+1)).2=93 then (⟨true,[],(figS s (i+1)).1⟩,(figS s (i+1)).2+1 - i) else (Dv,0)
 else (Dv,0)
theorem Kbj (s:List UInt8) (i:Nat):Juy s i=Ce (s.drop i):=by
 unfold Juy;by_cases hi:i<s.length/\at_ s i=91
 ·rw [if_pos hi];obtain ⟨hl,ha⟩:=hi;have hd:=Eax hl;have h91:s[i]=91:=UInt8.toNat_inj.1 (by rw [<- Jxv (Eaa hl),ha];rfl);rw [h91] at hd;rw [hd];have ha0:at_ (s.drop (i+1)) 0=at_ s (i+1):=Ko s (i+1) 0;have hr:(s.drop (i+1))[(dgR 7 (s.drop (i+1))).length]? = s[i+1+(dgR 7 (s.drop (i+1))).length]?:=Ecg;have h93:∀ j,(j<s.length/\at_ s j=93) ↔ s[j]? = some 93:=fun j=>by
   constructor
   ·rintro ⟨h1,h2⟩;rw [Eaa h1];congr 1;exact UInt8.toNat_inj.1 (by rw [<- Jxv (Eaa h1),h2];rfl)
   ·intro h;exact ⟨(Eab.1 h).1,Jxv h⟩
  by_cases hf:dgR 7 (s.drop (i+1))≠[]/\¬ (at_ (s.drop (i+1)) 0=48/\1<(dgR 7 (s.drop (i+1))).length)/\valD (dgR 7 (s.drop (i+1)))<=1000000
  ·have hfl:(dgR 7 (s.drop (i+1))).length≠0:=fun h=>hf.1 (Eal h)
   have e:figS s (i+1)=(((valD (dgR 7 (s.drop (i+1))):Nat):Int),i+1+(dgR 7 (s.drop (i+1))).length):=by
    unfold figS;rw [if_neg];rintro (h | h | h)
    ·exact hfl h
    ·exact hf.2.1 (by rw [ha0];exact h)
    ·omega
   rw [e];simp only;by_cases hb:s[i+1+(dgR 7 (s.drop (i+1))).length]? = some 93
   ·rw [if_pos ⟨by omega,(h93 _).2 hb⟩,Jle hf.1 hf.2.1 hf.2.2 (by rw [hr];exact hb)];congr 1;omega
   ·rw [if_neg (fun h=>hb ((h93 _).1 h.2))];refine (Jx5 (Ebp fun h=>hb ?_)).symm;rw [<- hr];exact (J2k h).2.2.2
  ·have e:figS s (i+1)=(-1,i+1):=by
    unfold figS;rw [if_pos];apply Ebp;intro h;refine hf ⟨fun h'=>h (.inl (by rw [h'];rfl)),fun h'=>h (.inr (.inl (by rw [<- ha0];exact h'))),?_⟩;omega
   rw [e];rw [if_neg (fun h=>by have:=h.1;simp only at this;omega)];refine (Jx5 (Ebp fun h=>hf ?_)).symm;have:=J2k h;exact ⟨this.1,this.2.1,this.2.2.1⟩
 ·rw [if_neg hi];unfold Ce;rw [if_neg];rintro ⟨h,-⟩;have hl:i<s.length:=by
   apply Ebp;intro hn;rw [Ear omg] at h;cases h
  rw [Eax hl,List.take_succ_cons,List.take_zero] at h;have:s[i]=91:=by simpa using h
  exact hi ⟨hl,by rw [Jxv (Eaa hl),this];rfl⟩
def H3 (s:List UInt8) (j:Nat):Prop:=letP (at_ s j)\/(0<j/\figP (at_ s j))
instance (s:List UInt8) (j:Nat):Decidable (H3 s j):=inferInstanceAs (Decidable (_\/_))
theorem Wt (s:List UInt8):∀ f i,i<=s.length->s.length+1<=i+f->(∀ j,i<=j->j<wF s f i->H3 s j)/\(wF s f i<s.length->¬ H3 s (wF s f i))
 | 0,i,h,h2=>by omega
 | f+1,i,h,h2=>by
  rw [wF];split
  ·rename_i hc;obtain ⟨g1,g2⟩:=Wt s f (i+1) omg omg;refine ⟨fun j h3 h4=>?_,g2⟩;by_cases hj:j=i
   ·subst hj;exact hc.2
   ·exact g1 j omg h4
  ·rename_i hc;exact ⟨fun j h3 h4=>by omega,fun hl hg=>hc ⟨hl,hg⟩⟩
theorem Sh {s:List UInt8} {j:Nat} (h:j<Dm s):H3 s j:=(Wt s (s.length+1) 0 (Eav _) omg).1 j (Eav _) h
theorem Jam {s:List UInt8} (h:Dm s<s.length):¬ H3 s (Dm s):=(Wt s (s.length+1) 0 (Eav _) omg).2 h
theorem Kaz {s:List UInt8} {m j:Nat} (h:j<m):at_ (s.take m) j=at_ s j:=by
 simp only [at_,Eah];rw [Ecl h]
theorem Jz8 {u:List UInt8} {j:Nat} (hj:j<u.length) (hw:j<=Dm u):isWd (u.take (j+1)) ↔ j<Dm u:=by
 have hl:(u.take (j+1)).length=j+1:=by rw [Eaw];omega
 have hle:=P3 (u.take (j+1));have hne:u.take (j+1)≠[]:=fun e=>by rw [e] at hl;simp at hl
 have hat:∀ x,x<j+1->(H3 (u.take (j+1)) x ↔ H3 u x):=fun x hx=>by unfold H3;rw [Kaz hx]
 constructor
 ·rintro ⟨_,h⟩;rw [hl] at h;have h1:=(hat j omg).1 (Sh omg);apply Ebp;intro hn;have e:Dm u=j:=by omega
  exact Jam (s:=u) omg (by rw [e];exact h1)
 ·intro h;refine ⟨hne,?_⟩;apply Ebp;intro hn;have hlt:Dm (u.take (j+1))<j+1:=by omega
  exact Jam (s:=u.take (j+1)) omg ((hat _ hlt).2 (Sh omg))
def Js6 (s:List UInt8) (i:Nat) (first:Bool):Step×Nat :=
 if (Bw (s.drop i)).2≠0 then Bw (s.drop i)
 else if first=true then (if (i<s.length/\at_ s i=46)/\(Juy s (i+1)).2≠0 then ((Juy s (i+1)).1,(Juy s (i+1)).2+1) else (Dv,0))
 else if i<s.length/\at_ s i=46 then (Dv,0) else Juy s i
theorem Jzd {s:List UInt8} {i:Nat}:(s.drop i).take 1=[46] ↔ (i<s.length/\at_ s i=46):=by
 constructor
 ·intro h;have hl:i<s.length:=by
   apply Ebp;intro hn;rw [Ear omg] at h;cases h
  rw [Eax hl,List.take_succ_cons,List.take_zero] at h;have:s[i]=46:=by simpa using h
  exact ⟨hl,by rw [Jxv (Eaa hl),this];rfl⟩
 ·rintro ⟨hl,ha⟩;rw [Eax hl,List.take_succ_cons,List.take_zero];congr 1;exact UInt8.toNat_inj.1 (by rw [<- Jxv (Eaa hl),ha];rfl)
theorem J6v {s:List UInt8} {i:Nat} (h:i<=s.length):i<=(figS s i).2/\(figS s i).2<=s.length/\(figS s i).1<=1000000/\-1<=(figS s i).1:=by
 have:=(Jd2 7 (s.drop i)).2;rw [Ea4] at this;unfold figS;split
 ·exact ⟨Eai _,h,by simp,by simp⟩
 ·simp only;omega
theorem J61 {s:List UInt8} {i:Nat} (h:¬ (i<s.length/\at_ s i=91/\0<=(figS s (i+1)).1/\(figS s (i+1)).2<s.length/\at_ s (figS s (i+1)).2=93)):Juy s i=(Dv,0):=by
 unfold Juy;by_cases h1:i<s.length/\at_ s i=91
 ·rw [if_pos h1,if_neg (fun h2=>h ⟨h1.1,h1.2,h2⟩)]
 ·rw [if_neg h1]
theorem J5j {s:List UInt8} {i:Nat} (h:i<s.length/\at_ s i=91/\0<=(figS s (i+1)).1/\(figS s (i+1)).2<s.length/\at_ s (figS s (i+1)).2=93):Juy s i=(⟨true,[],(figS s (i+1)).1⟩,(figS s (i+1)).2+1 - i):=by
 unfold Juy;rw [if_pos ⟨h.1,h.2.1⟩,if_pos h.2.2]
theorem J5t (s:List UInt8) (i:Nat) (first:Bool) (hs:s.length<=1000000) (hi:i<=s.length) (hd:¬ (i<s.length/\at_ s i=46)):Det cx 192 [.p (.str s),.p (.int .i64 i),.p (.bool first)] [] (.tup [.agg (Js6 s i first).1.cells,.int .i64 (i+(Js6 s i first).2:Nat)]) []:=by
 have hf:(Bw (s.drop i)).2=0:=by unfold Bw;rw [if_neg (fun h=>hd (Jzd.1 h))]
 have e:Js6 s i first=if first=true then (Dv,0) else Juy s i:=by
  unfold Js6;rw [if_neg omg,if_neg (c:=(i<s.length/\at_ s i=46)/\_) (fun h=>hd h.1),if_neg hd]
 rw [e];cases first
 ·rw [if_neg sm];(refine bgo Tryz.func192 ?_;simp only [go_sem,simprocAttr,wi1 (i:=i) omg]);(repeat' (first|(apply iteI<;>intro h)|refine Jqj ?_|((refine Jqa (J4z s (i+1) hs omg) ?_);simp only [go_sem,simprocAttr,wi1 (i:=i) omg])|(exfalso;omega)))
  all_goals first
   | (rw [J61 omg];exact ⟨rfl,rfl⟩)
   | (
    have hl:=J6v (s:=s) (i:=i+1) omg;rw [J5j omg,Aa omg omg];refine ⟨rfl,?_⟩;simp only;omega)
 ·(refine bgo Tryz.func192 ?_;simp only [go_sem,simprocAttr,wi1 (i:=i) omg]);(repeat' (first|(apply iteI<;>intro h)|refine Jqj ?_|(exfalso;omega)))
  all_goals exact ⟨rfl,rfl⟩
theorem J92 (s:List UInt8) (i:Nat) (first:Bool) (hs:s.length<=1000000) (hi:i<s.length) (hd:at_ s i=46):Det cx 192 [.p (.str s),.p (.int .i64 i),.p (.bool first)] [] (.tup [.agg (Js6 s i first).1.cells,.int .i64 (i+(Js6 s i first).2:Nat)]) []:=by
 have hdot:=Jzd.2 ⟨hi,hd⟩;have hdr:(s.drop i).drop 1=s.drop (i+1):=by rw [Ebg]
 have hwl:=P3 (s.drop (i+1));have hlen:(s.drop (i+1)).length=s.length - (i+1):=Ea4;rw [hlen] at hwl;(refine bgo Tryz.func192 ?_;simp only [go_sem,simprocAttr,wi1 (i:=i) omg]);(repeat' (first|(apply iteI<;>intro h)|refine Jqj ?_|(exfalso;omega)));refine SWP.loop (fun k:Nat=>⟨Ba 129 [(0,.p (.str s)),(1,.p (.int .i64 (i+1:Nat))),(2,.p (.bool first)),(6,.ptr 6 0 0),(8,.p (.int .i64 i)),(9,.p (.int .i64 (i+1+k:Nat)))],[(6,.var 63 [.p (.bool false),.p (.str []),.p (.int .i64 0)])]⟩) (fun k=>k<=Dm (s.drop (i+1))) (fun k=>Dm (s.drop (i+1)) - k) 0 Jqc (Eav _) ?_;intro k hk;have hsub:i+1+k+1 - (i+1)=k+1:=by omega
 have hw1:=wi1 (i:=i+1+k) omg;by_cases hlt:k<Dm (s.drop (i+1))
 ·have hW:decide (isWd ((s.drop (i+1)).take (k+1)))=true:=decide_eq_true ((Jz8 omg hk).2 hlt);(refine lws ?_;simp only [go_sem,simprocAttr,wi1 (i:=i) omg,hsub,hw1]);(repeat' (first|(apply iteI<;>intro h)|refine Jqj ?_|((refine Jqa (Jvl ((s.drop (i+1)).take (k+1)) (by rw [Eaw];omega)) ?_);simp only [go_sem,simprocAttr,wi1 (i:=i) omg,hw1,hW])|(exfalso;omega)));exact ⟨k+1,by omega,by omega,Jqc⟩
 ·have hkw:k=Dm (s.drop (i+1)):=by omega
  by_cases hk0:0<k
  ·have ef:Bw (s.drop i)=(⟨false,(s.drop (i+1)).take k,0⟩,k+1):=by
    unfold Bw;rw [if_pos hdot,hdr,if_pos omg,hkw]
   have e:Js6 s i first=(⟨false,(s.drop (i+1)).take k,0⟩,k+1):=by
    unfold Js6;rw [ef,if_pos (Nat.succ_ne_zero _)]
   have hfin:([PV.bool false,PV.str (List.take (i+1+k - (i+1)) (List.drop (i+1) s)),PV.int IntKind.i64 0]=(Js6 s i first).1.cells/\((i+1+k:Nat):Int)=((i+(Js6 s i first).2:Nat):Int)):=by
    rw [e];refine ⟨?_,?_⟩
    ·rw [show i+1+k - (i+1)=k by omega];rfl
    ·simp only;omega
   by_cases hend:i+1+k<s.length
   ·have hW:decide (isWd ((s.drop (i+1)).take (k+1)))=false:=decide_eq_false (fun h=>hlt ((Jz8 omg hk).1 h));(refine lws ?_;simp only [go_sem,simprocAttr,wi1 (i:=i) omg,hsub,hw1]);(repeat' (first|(apply iteI<;>intro h)|refine Jqj ?_|((refine Jqa (Jvl ((s.drop (i+1)).take (k+1)) (by rw [Eaw];omega)) ?_);simp only [go_sem,simprocAttr,wi1 (i:=i) omg,hW])|(exfalso;omega)));exact hfin
   ·have hW:=hw1;(refine lws ?_;simp only [go_sem,simprocAttr,wi1 (i:=i) omg,hsub,hw1]);(repeat' (first|(apply iteI<;>intro h)|refine Jqj ?_|(exfalso;omega)));exact hfin
  ·have hk1:k=0:=by omega
   subst hk1;have hdl:(s.drop (i+1)).length<=1000000:=by omega
   obtain ⟨u1,u2,u3⟩:=Jl8 (s.drop (i+1));rw [hlen] at u2 u3;have hsub:i+1+0+1 - (i+1)=1:=by omega
   have hsubq:i+1+(uq (s.drop (i+1))).2.1 - (i+1)=(uq (s.drop (i+1))).2.1:=by omega
   have hwq:=wia (i:=i+1) (j:=(uq (s.drop (i+1))).2.1) omg omg;have hG:(uq (s.drop (i+1))).2.2=0->¬ isWd (uq (s.drop (i+1))).1->refQ (uq (s.drop (i+1))).1=(s.drop (i+1)).take (uq (s.drop (i+1))).2.1->Js6 s i first=(⟨false,(uq (s.drop (i+1))).1,0⟩,(uq (s.drop (i+1))).2.1+1):=fun g1 g2 g3=>by
    have ef:Bw (s.drop i)=(⟨false,(uq (s.drop (i+1))).1,0⟩,(uq (s.drop (i+1))).2.1+1):=by
     unfold Bw;rw [if_pos hdot,hdr,if_neg omg,if_neg];rintro (h | h | h)
     ·exact h g1
     ·exact g2 h
     ·exact h g3
    unfold Js6;rw [ef,if_pos (Nat.succ_ne_zero _)]
   have hB:¬ ((uq (s.drop (i+1))).2.2=0/\¬ isWd (uq (s.drop (i+1))).1/\refQ (uq (s.drop (i+1))).1=(s.drop (i+1)).take (uq (s.drop (i+1))).2.1)->Js6 s i first=if first=true then (if (Juy s (i+1)).2≠0 then ((Juy s (i+1)).1,(Juy s (i+1)).2+1) else (Dv,0)) else (Dv,0):=fun hb=>by
    have ef:Bw (s.drop i)=(Dv,0):=by
     unfold Bw;rw [if_pos hdot,hdr,if_neg omg,if_pos];apply Ebp;intro hn;refine hb ⟨?_,?_,?_⟩
     ·exact Ebp fun h=>hn (.inl h)
     ·exact fun h=>hn (.inr (.inl h))
     ·exact Ebp fun h=>hn (.inr (.inr h))
    unfold Js6;rw [ef,if_neg (fun h=>h rfl),if_pos (c:=i<s.length/\at_ s i=46) ⟨hi,hd⟩];by_cases hp:(Juy s (i+1)).2≠0
    ·rw [if_pos hp,if_pos (c:=(i<s.length/\at_ s i=46)/\_) ⟨⟨hi,hd⟩,hp⟩]
    ·rw [if_neg hp,if_neg (c:=(i<s.length/\at_ s i=46)/\_) (fun h=>hp h.2)]
   have hB1:¬ ((uq (s.drop (i+1))).2.2=0/\¬ isWd (uq (s.drop (i+1))).1/\refQ (uq (s.drop (i+1))).1=(s.drop (i+1)).take (uq (s.drop (i+1))).2.1)->first=false->Js6 s i first=(Dv,0):=fun hb hf=>by rw [hB hb,hf,if_neg sm]
   have hB2:¬ ((uq (s.drop (i+1))).2.2=0/\¬ isWd (uq (s.drop (i+1))).1/\refQ (uq (s.drop (i+1))).1=(s.drop (i+1)).take (uq (s.drop (i+1))).2.1)->¬ first=false->¬ (i+1<s.length/\at_ s (i+1)=91/\0<=(figS s (i+1+1)).1/\(figS s (i+1+1)).2<s.length/\at_ s (figS s (i+1+1)).2=93)->Js6 s i first=(Dv,0):=fun hb hf h=>by
    rw [hB hb,J61 h];cases first <;> rfl
   have hB3:¬ ((uq (s.drop (i+1))).2.2=0/\¬ isWd (uq (s.drop (i+1))).1/\refQ (uq (s.drop (i+1))).1=(s.drop (i+1)).take (uq (s.drop (i+1))).2.1)->¬ first=false->(i+1<s.length/\at_ s (i+1)=91/\0<=(figS s (i+1+1)).1/\(figS s (i+1+1)).2<s.length/\at_ s (figS s (i+1+1)).2=93)->Js6 s i first=(⟨true,[],(figS s (i+1+1)).1⟩,(figS s (i+1+1)).2+1 - (i+1)+1):=fun hb hf h=>by
    have hl:=J6v (s:=s) (i:=i+1+1) omg;rw [hB hb,J5j h,if_pos (by cases first <;> simp_all),if_pos (by simp only;omega)]
   have hwi:IntKind.i64.wrap ((i+1:Nat)+1:Int)=((i+1+1:Nat):Int):=wi1 omg;by_cases hend:i+1+0<s.length
   ·have hW:decide (isWd ((s.drop (i+1)).take (0+1)))=false:=decide_eq_false (fun h=>hlt ((Jz8 omg hk).1 h));have hl:=J6v (s:=s) (i:=i+1+1) omg;(refine lws ?_;simp only [go_sem,simprocAttr,wi1 (i:=i) omg,hsub,hw1]);(repeat' (first|(apply iteI<;>intro h)|refine Jqj ?_|((first|refine Jqm ?_|(refine Jqa (Jvl ((s.drop (i+1)).take (0+1)) (by rw [Eaw];omega)) ?_)|(refine Jqa (Jym (s.drop (i+1)) hdl) ?_)|(refine Jqb (Jvl (uq (s.drop (i+1))).1 omg) ?_)|(refine Jqb (J16 (uq (s.drop (i+1))).1 omg) ?_)|(refine Jqa (J4z s (i+1+0+1) hs omg) ?_));simp only [go_sem,simprocAttr,wi1 (i:=i) omg,hw1,hW,hsubq,hwq])|(exfalso;omega)))
    all_goals simp only [Nat.add_zero] at *
    all_goals first
     | (exfalso;omega)
     | (rw [hG omg (by assumption) (by assumption)];exact ⟨rfl,by simp only;omega⟩)
     | (rw [hB1 (fun ⟨a,b,c⟩=>by first | omega | (exact absurd b (by assumption))|(exact absurd c (by assumption))) (by assumption)];exact ⟨rfl,rfl⟩)
     | (rw [hB2 (fun ⟨a,b,c⟩=>by first | omega | (exact absurd b (by assumption))|(exact absurd c (by assumption))) (by assumption) omg];exact ⟨rfl,rfl⟩)
     | (rw [hB3 (fun ⟨a,b,c⟩=>by first | omega | (exact absurd b (by assumption))|(exact absurd c (by assumption))) (by assumption) omg,Aa omg omg];exact ⟨rfl,by simp only;omega⟩)
   ·have hW:=hw1;(refine lws ?_;simp only [go_sem,simprocAttr,wi1 (i:=i) omg,hsub,hw1]);(repeat' (first|(apply iteI<;>intro h)|refine Jqj ?_|((first|refine Jqm ?_|(refine Jqa (Jym (s.drop (i+1)) hdl) ?_)|(refine Jqb (Jvl (uq (s.drop (i+1))).1 omg) ?_)|(refine Jqb (J16 (uq (s.drop (i+1))).1 omg) ?_));simp only [go_sem,simprocAttr,wi1 (i:=i) omg,hw1,hsubq,hwq])|(exfalso;omega)))
    all_goals simp only [Nat.add_zero] at *
    all_goals first
     | (exfalso;omega)
     | (rw [hG omg (by assumption) (by assumption)];exact ⟨rfl,by simp only;omega⟩)
     | (rw [hB1 (fun ⟨a,b,c⟩=>by first | omega | (exact absurd b (by assumption))|(exact absurd c (by assumption))) (by assumption)];exact ⟨rfl,rfl⟩)
     | (rw [hB2 (fun ⟨a,b,c⟩=>by first | omega | (exact absurd b (by assumption))|(exact absurd c (by assumption))) (by assumption) omg];exact ⟨rfl,rfl⟩)
theorem d_step (s:List UInt8) (i:Nat) (first:Bool) (hs:s.length<=1000000) (hi:i<=s.length):Det cx 192 [.p (.str s),.p (.int .i64 i),.p (.bool first)] [] (.tup [.agg (Js6 s i first).1.cells,.int .i64 (i+(Js6 s i first).2:Nat)]) []:=by
 by_cases hd:i<s.length/\at_ s i=46
 ·exact J92 s i first hs hd.1 hd.2
 ·exact J5t s i first hs hi hd
theorem Kab {s:List UInt8} {i:Nat}:Js6 s i (decide (i=0))=Ee s i:=by
 unfold Js6 Ee;by_cases hf:(Bw (s.drop i)).2≠0
 ·rw [if_pos hf,if_pos hf]
 ·rw [if_neg hf,if_neg hf,Kbj,Kbj];by_cases hi:i=0
  ·rw [if_pos (decide_eq_true hi),if_pos hi];subst hi;have hd:=Jzd (s:=s) (i:=0);rw [Ebi] at hd;by_cases h1:s.take 1=[46]
   ·by_cases h2:(Ce (s.drop (0+1))).2≠0
    ·rw [if_pos ⟨hd.1 h1,h2⟩,if_pos ⟨h1,h2⟩]
    ·rw [if_neg (fun h=>h2 h.2),if_neg (fun h=>h2 h.2)]
   ·rw [if_neg (fun h=>h1 (hd.2 h.1)),if_neg (fun h=>h1 h.1)]
  ·rw [if_neg (fun h=>hi (of_decide_eq_true h)),if_neg hi];by_cases hdt:i<s.length/\at_ s i=46
   ·rw [if_pos hdt];refine (Jx5 ?_).symm;unfold Ce;rw [if_neg];rintro ⟨h,-⟩;rw [Jzd.2 hdt] at h;cases h
   ·rw [if_neg hdt]
theorem Kdn {s:List UInt8} {i:Nat} (h:s.length<=i):(Ee s i).2=0:=by
 have hd:s.drop i=[]:=Ear h;unfold Ee;have hf:Bw []=(Dv,0):=rfl;have hp:Ce []=(Dv,0):=rfl;rw [hd,hf,if_neg (fun h=>h rfl),hp];split
 ·have:s=[]:=Eal omg;subst this;rfl
 ·rfl
def begS (s:List UInt8):List Step×Nat:=if (Mp s).1.length=0/\s.take 1=[46] then ((Mp s).1,1) else Mp s
theorem J7g (s:List UInt8) (hs:s.length<=1000000):Det cx 150 [.p (.str s),.p (.int .i64 0)] [] (.tup [.sl (Bb (begS s).1),.int .i64 (begS s).2]) []:=by
 (refine bgo Tryz.func150 ?_;simp only [go_sem,simprocAttr]);refine Jqg (B1 [(10,30)] _ sm) ?_;simp only [go_sem,simprocAttr];refine SWP.loop (fun x:Nat×Nat×List Step=>⟨Ba 52 [(0,.p (.str s)),(1,.p (.int .i64 x.1)),(6,.own 30 0 x.2.2.length),(7,.p (.int .i64 0))],[(30,.row 63 3 (Bb x.2.2))]⟩) (fun x=>x.1<=s.length/\s.length+1<=x.1+x.2.1/\x.2.2.length<=20/\(x.2.2.length=0 ↔ x.1=0)/\Fl s x.2.1 x.1 x.2.2=Mp s) (fun x=>s.length - x.1) (0,s.length+1,[]) (by rw [show Bb []=[] from rfl];exact Jqc) ⟨Eav _,by simp,by simp,by simp,rfl⟩ ?_;rintro ⟨i,f,p⟩ ⟨h1,h2,h3,h5,h4⟩;simp only at h1 h2 h3 h4 h5;have hstep:=d_step s i (decide (i=0)) hs h1;rw [Kab] at hstep;have hnl:=Jzk h1;have hfd:((p.length:Int) == 0)=decide (i=0):=by
  rw [Ea0,beq_iff_eq,decide_eq_true_eq];omega
 have htk:(Bb p).take p.length=Bb p:=Ead sm;have hbeg:Fl s f i p=(p,i)->begS s=if p.length=0/\s.take 1=[46] then (p,1) else (p,i):=fun h=>by
  rw [h] at h4;unfold begS;rw [<- h4]
 have hdot:=Jzd (s:=s) (i:=0);rw [Ebi] at hdot;by_cases hc:p.length<20
 ·by_cases hn:(Ee s i).2=0
  ·have hst:Fl s f i p=(p,i):=Gv fun h=>h.2.2 hn
   have hb:=hbeg hst;have hw:=hn;have hel:=hfd;(refine lws ?_;simp only [go_sem,simprocAttr,Aq,htk,Eai,hel]);(repeat' (first|(apply iteI<;>intro h)|refine Jqj ?_|((refine Jqa hstep ?_);simp only [go_sem,simprocAttr,Aq,htk,Eai,Step.cells,hel,hw])|(exfalso;omega)))
   ·rw [hb,if_pos ⟨by omega,hdot.2 ⟨by omega,by omega⟩⟩];exact ⟨rfl,rfl⟩
   ·rw [hb,if_neg (fun h=>by have:=(hdot.1 h.2).2;omega)];exact ⟨rfl,rfl⟩
   ·rw [hb,if_neg (fun h=>by have:=(hdot.1 h.2).1;omega)];exact ⟨rfl,rfl⟩
   ·rw [hb,if_neg (fun h=>by omega)];exact ⟨rfl,rfl⟩
  ·obtain ⟨g,rfl⟩:∃ g,f=g+1:=⟨f - 1,by omega⟩
   have hil:i<s.length:=Ebp fun h=>hn (Kdn omg)
   rw [Fl,if_pos ⟨hil,hc,hn⟩] at h4;have hel:Bb p ++ [[.bool (Ee s i).1.part,.str (Ee s i).1.name,.int .i64 (Ee s i).1.n]]=Bb (p ++ [(Ee s i).1]):=by rw [Kn];rfl
   have hw:=hfd;(refine lws ?_;simp only [go_sem,simprocAttr,Aq,htk,Eai,hfd]);(repeat' (first|(apply iteI<;>intro h)|refine Jqj ?_|((refine Jqa hstep ?_);simp only [go_sem,simprocAttr,Aq,htk,Eai,Step.cells,hel,hfd])|(exfalso;omega)));refine ⟨by simp,by omega,by omega,(i+(Ee s i).2,g,p ++ [(Ee s i).1]),⟨?_,?_,?_,?_,h4⟩,?_,?_⟩
   ·simp only;omega
   ·simp only;omega
   ·simp only [Eac,List.length_singleton];omega
   ·simp only [Eac,List.length_singleton];constructor
    ·intro h;omega
    ·intro h;omega
   ·simp only;omega
   simp only [Eac,List.length_singleton];exact Jqc
 ·have hst:Fl s f i p=(p,i):=Gv fun h=>hc h.2.1
  have hb:=hbeg hst;have hw:=hfd;have hel:=hfd;(refine lws ?_;simp only [go_sem,simprocAttr,Aq,htk,Eai,hel]);(repeat' (first|(apply iteI<;>intro h)|refine Jqj ?_|((refine Jqa hstep ?_);simp only [go_sem,simprocAttr,Aq,htk,Eai,Step.cells,hel])|(exfalso;omega)));rw [hb,if_neg omg];exact ⟨rfl,rfl⟩
theorem Ke6:begS [46]=([],1):=by
 have e:Mp [46]=([],0):=rfl;unfold begS;rw [e];rfl
theorem J5e {s:List UInt8}:∀ (f i:Nat) (p:List Step),i<=(Fl s f i p).2/\p.length<=(Fl s f i p).1.length/\((Fl s f i p).1.length=p.length->Fl s f i p=(p,i))
 | 0,i,p=>⟨Eai _,Eai _,fun _=>rfl⟩
 | f+1,i,p=>by
  rw [Fl];split
  ·have:=J5e (s:=s) f (i+(Ee s i).2) (p ++ [(Ee s i).1]);rw [Eac,List.length_singleton] at this;exact ⟨by omega,by omega,fun h=>by omega⟩
  ·exact ⟨Eai _,Eai _,fun _=>rfl⟩
theorem J4g (s:List UInt8) (hs:s.length<=1000000):Det cx 112 [.p (.str s)] [] (.tup [.sl (Bb (Je s).1),.int .i64 (Je s).2.1,.int .i64 (Je s).2.2]) []:=by
 refine Det.weak ?_;by_cases hd:s=[46]
 ·subst hd;have hB:=J7g [46] de;rw [Ke6] at hB;(refine bgo Tryz.func112 ?_;simp only [go_sem,simprocAttr]);(repeat' (first|((refine Jqa hB ?_);simp only [go_sem,simprocAttr])|fail));exact .inl rfl
 ·have hd':(s=[46])=False:=eq_false hd;have hB:=J7g s hs;have hnil:=(J5e (s:=s) (s.length+1) 0 []).2.2;have hR0:(Mp s).1.length=0->Mp s=([],0):=hnil;have hb0:(begS s).1.length=0->(Mp s).1.length=0:=fun h=>by
   unfold begS at h;split at h
   ·exact h
   ·exact h
  have hb1:¬ (begS s).1.length=0->begS s=Mp s:=fun h=>by
   unfold begS at h ⊢;split
   ·rename_i hc;rw [if_pos hc] at h;exact absurd hc.1 h
   ·rfl
  (refine bgo Tryz.func112 ?_;simp only [go_sem,simprocAttr]);(repeat' (first|(apply iteI<;>intro h)|((refine Jqa hB ?_);simp only [go_sem,simprocAttr,hd',Aq])|fail))
  ·have h0:=hR0 (hb0 omg);have e:Je s=([],0,1):=by
    unfold Je;rw [if_neg hd,h0];rw [if_pos (.inr rfl)]
   rw [e];exact Jsf ⟨.nil,.refl _,.refl _,trivial⟩
  ·have hb:=hb1 omg;have hq:(begS s).2<s.length:=by omega
   rw [hb] at hq ⊢;have e:Je s=([],(Mp s).2,1):=by
    unfold Je;rw [if_neg hd,if_pos (.inl omg)]
   rw [e];exact Jsf ⟨.nil,.refl _,.refl _,trivial⟩
  ·have hb:=hb1 omg;have hq:¬ (begS s).2<s.length:=by omega
   have hq2:¬ (begS s).1.length=0:=by omega
   rw [hb] at hq hq2 ⊢;have e:Je s=((Mp s).1,0,0):=by
    unfold Je;rw [if_neg hd,if_neg omg]
   rw [e];exact .inl rfl
def F8 (x y:Step):Prop:=x.part=y.part/\x.name=y.name/\x.n=y.n
instance (x y:Step):Decidable (F8 x y):=inferInstanceAs (Decidable (_/\_))
theorem Dc {x y:Step}:F8 x y ↔ x=y:=by
 unfold F8;constructor
 ·rintro ⟨h1,h2,h3⟩;cases x;cases y;simp_all
 ·rintro rfl;exact ⟨rfl,rfl,rfl⟩
theorem Pw {x y:Step}:(x.part == y.part && (x.name == y.name && x.n == y.n))=decide (F8 x y):=by
 rw [Ea0,decide_eq_true_eq];simp [F8]
def B7:List Step->List Step->Bool
 | x :: p,y :: q=>!decide (F8 x y) || B7 p q
 | _,_=>false
theorem Jb0 (p:List Step):B7 p []=false:=by cases p <;> rfl
instance:DecidableEq Step:=fun x y=>decidable_of_iff _ (Dc (x:=x) (y:=y))
theorem Bp (p:List Step):∀ x∈Bb p,x.length=3:=by
 intro x hx;obtain ⟨y,-,rfl⟩:=Eap.1 hx;rfl
def inT:Tree->Step->Except Nat Tree
 | .mk k _ _ _ kids,x =>
  if x.part=true then (if k≠5 then .error 5 else match kids.list[x.n.toNat]? with
   | some p=>.ok p.2
   | none=>.error 6)
  else (if k≠6 then .error 5 else match Ch x.name kids.list with
   | some t=>.ok t
   | none=>.error 6)
theorem Iz {k:Int} {s:List UInt8} {g:Bool} {e:Int} {kids:Forest} {x:Step} (hp:x.part=true) (hk:¬ k=5):inT (.mk k s g e kids) x=.error 5:=by
 show (if x.part=true then (if k≠5 then Except.error 5 else _) else _)=_;rw [if_pos hp,if_pos hk]
theorem Iw {k:Int} {s:List UInt8} {g:Bool} {e:Int} {kids:Forest} {x:Step} (hp:x.part=false) (hk:¬ k=6):inT (.mk k s g e kids) x=.error 5:=by
 show (if x.part=true then _ else (if k≠6 then Except.error 5 else _))=_;rw [if_neg (by simp [hp]),if_pos hk]
theorem Tm {s:List UInt8} {g:Bool} {e:Int} {kids:Forest} {x:Step} (hp:x.part=true):inT (.mk 5 s g e kids) x=match kids.list[x.n.toNat]? with
   | some p=>.ok p.2
   | none=>.error 6:=by
 show (if x.part=true then _ else _)=_;rw [if_pos hp];rfl
theorem Tp {s:List UInt8} {g:Bool} {e:Int} {kids:Forest} {x:Step} (hp:x.part=false):inT (.mk 6 s g e kids) x=match Ch x.name kids.list with
   | some t=>.ok t
   | none=>.error 6:=by
 show (if x.part=true then _ else _)=_;rw [if_neg (by simp [hp])];rfl
def getR:Except Nat Tree->L
 | .ok t=>.tup [.sl (valL (t.enc [])),.int .i64 0]
 | .error e=>.tup [.snil,.int .i64 e]
theorem Hx {l:List (List UInt8×Tree)} {i:Nat} {p:List UInt8×Tree} (h:l[i]? = some p):(A4 l)[i]? = some [.sl (valL (p.2.enc []))]:=by simp [A4,h]
theorem d_in (t:Tree) (x:Step) (hv:(t.enc []).length<=1500000000000) (hx:Bc x):Det cx 124 [.p (.sl (valL (t.enc []))),.p (.agg [.bool x.part,.str x.name,.int .i64 x.n])] [] (getR (inT t x)) []:=by
 cases t with
 | mk k s g e kids =>
 have hkv:kids.enc.length<=1499999999999:=by rw [A6] at hv;simp at hv;omega
 have hll:=Jqi kids;have hkl:=Jqh kids;unfold Bc at hx;cases hp:x.part
 ·by_cases hk:k=6
  ·subst hk;rw [Tp hp];cases hf:Ch x.name kids.list with
   | none =>
    have hF:=Jdk [] s g e kids x.name hkv;rw [hf] at hF;unfold Oo at hF;(refine bgo Tryz.func124 ?_;simp only [go_sem,simprocAttr,Cc]);(repeat' (first|((refine Jqa hF ?_);simp only [go_sem,simprocAttr])|fail))
    all_goals rfl
   | some t =>
    have hF:=Jdk [] s g e kids x.name hkv;rw [hf] at hF;unfold Oo at hF;(refine bgo Tryz.func124 ?_;simp only [go_sem,simprocAttr,Cc]);(repeat' (first|((refine Jqa hF ?_);simp only [go_sem,simprocAttr])|fail))
    all_goals rfl
  ·rw [Iw hp hk];(refine bgo Tryz.func124 ?_;simp only [go_sem,simprocAttr,Cc]);(repeat' (first|(apply iteI<;>intro h)|(exfalso;omega)))
   all_goals rfl
 ·rw [if_pos hp] at hx;obtain ⟨n,hn⟩:∃ n:Nat,x.n=n:=⟨x.n.toNat,by omega⟩
  by_cases hk:k=5
  ·subst hk;rw [Tm hp,hn];have hpt:((n:Int)).toNat=n:=rfl;rw [hpt];by_cases hlt:n<kids.len
   ·obtain ⟨p,hpk⟩:∃ p,kids.list[n]? = some p:=⟨_,Eaa omg⟩
    have hpg:=Hx hpk;rw [hpk];(refine bgo Tryz.func124 ?_;simp only [go_sem,simprocAttr,Cc]);(repeat' (first|(apply iteI<;>intro h)|((first|refine Jqm ?_|(refine Jqb (Px [] 5 s g e kids hkv) ?_));simp only [go_sem,simprocAttr,Cc,hpg])|(exfalso;omega)))
    all_goals rfl
   ·rw [Ec1 omg];have hpg:=hn;(refine bgo Tryz.func124 ?_;simp only [go_sem,simprocAttr,Cc]);(repeat' (first|(exfalso;omega)|(apply iteI<;>intro h)|((refine Jqm ?_);simp only [go_sem,simprocAttr,Cc])|fail))
    all_goals rfl
  ·rw [Iz hp hk,hn];have hpg:=hn;(refine bgo Tryz.func124 ?_;simp only [go_sem,simprocAttr,Cc]);(repeat' (first|(apply iteI<;>intro h)|((refine Jqm ?_);simp only [go_sem,simprocAttr,Cc])|(exfalso;omega)))
   all_goals rfl
end Go.LX
