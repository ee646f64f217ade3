/- Paths: a field's step, a part's step. -/
import Derived.Test.YtgfggbndbceppaaGreatDoorLxO
import Derived.Test.YtgfggbndbceppaaGreatDoorLxP
import Derived.Test.YtgfggbndbceppaaGreatDoorLxI
import Derived.Lib.ItoaLen
import Derived.Lib.AtoiTie
set_option linter.unusedSimpArgs false
set_option linter.unusedVariables false
set_option linter.unusedSectionVars false
set_option linter.unnecessarySimpa false
set_option maxRecDepth 100000
set_option maxHeartbeats 2000000
namespace Go.LX
open Go Go.RowKit Go.Proofs
attribute [local irreducible] Al SWP Bi
def Dv:Step:=⟨false,[],0⟩
def Bw (s:List UInt8):Step×Nat :=
 if s.take 1=[46] then
  if 0<Dm (s.drop 1) then (⟨false,(s.drop 1).take (Dm (s.drop 1)),0⟩,Dm (s.drop 1)+1)
  else if (uq (s.drop 1)).2.2≠0∨isWd (uq (s.drop 1)).1∨refQ (uq (s.drop 1)).1≠(s.drop 1).take (uq (s.drop 1)).2.1 then (Dv,0)
  else (⟨false,(uq (s.drop 1)).1,0⟩,(uq (s.drop 1)).2.1+1)
 else (Dv,0)
theorem Jni {s:List UInt8} (h:(uq s).2.2=0):valid (uq s).1=true∧(uq s).1.length+2≤(uq s).2.1∧(refQ (uq s).1).length≤(uq s).2.1∧(uq s).2.1≤s.length :=
 Jmq (s:=s) (x:=(uq s).1) (n:=(uq s).2.1) (by rw [← h])
theorem Jl8 (s:List UInt8):valid (uq s).1=true∧(uq s).1.length≤s.length∧(uq s).2.1≤s.length:=by
 rcases Jcv s with h | ⟨h1,h2,h3⟩
 ·have:=Jni h.1;exact ⟨this.1,by omega,by omega⟩
 ·rw [h2];exact ⟨rfl,Nat.zero_le _,h3⟩
theorem Ja3 (s:List UInt8) (hs:s.length≤1000000) (h0:¬ s.take 1=[46]):Det cx 173 [.p (.str s)] [] (.tup [.agg Dv.cells,.int .i64 0]) []:=by
 (refine bgo Tryz.func173 ?_;simp only [go_sem,simprocAttr]);(repeat' (first | (apply iteI <;> intro h)|((refine Jqa (Bj s [46] hs sm) ?_);simp only [go_sem,simprocAttr]) | fail))
 ·rfl
 ·exact absurd h0 (by assumption)
theorem Vu (s:List UInt8) (hs:s.length≤1000000) (h0:s.take 1=[46]) (h2:0<Dm (s.drop 1)):Det cx 173 [.p (.str s)] [] (.tup [.agg (Step.cells ⟨false,(s.drop 1).take (Dm (s.drop 1)),0⟩),.int .i64 (Dm (s.drop 1)+1:Nat)]) []:=by
 have h1:1≤s.length:=by cases s <;> simp at h0 ⊢
 have hw:=P3 (s.drop 1);rw [List.length_drop] at hw;(refine bgo Tryz.func173 ?_;simp only [go_sem,simprocAttr,wi1 (i:=Dm (s.drop 1)) omg]);(repeat' (first | (apply iteI <;> intro h)|(refine Jqd ?_)|((first | (refine Jqa (Bj s [46] hs sm) ?_)|(refine Jqa (Nw (s.drop 1) (by simp;omega)) ?_));simp only [go_sem,simprocAttr,h0,wi1 (i:=Dm (s.drop 1)) omg])|(exfalso;omega)));rfl
theorem Ev (s:List UInt8) (hs:s.length≤1000000):Det cx 173 [.p (.str s)] [] (.tup [.agg (Bw s).1.cells,.int .i64 (Bw s).2]) []:=by
 by_cases h0:s.take 1=[46]
 ·have h1:1≤s.length:=by cases s <;> simp at h0 ⊢
  by_cases h2:0<Dm (s.drop 1)
  ·have e:Bw s=(⟨false,(s.drop 1).take (Dm (s.drop 1)),0⟩,Dm (s.drop 1)+1):=by unfold Bw;rw [if_pos h0,if_pos h2]
   rw [e];exact Vu s hs h0 h2
  ·obtain ⟨u1,u2,u3⟩:=Jl8 (s.drop 1);rw [List.length_drop] at u2 u3;have hw:Dm (s.drop 1)=0:=by omega
   have w1:IntKind.i64.wrap (1+((uq (s.drop 1)).2.1:Int))=(((uq (s.drop 1)).2.1+1:Nat):Int):=by rw [Int.add_comm];exact wi1 omg
   have no:((uq (s.drop 1)).2.2≠0∨isWd (uq (s.drop 1)).1∨refQ (uq (s.drop 1)).1≠(s.drop 1).take (uq (s.drop 1)).2.1)→Bw s=(Dv,0):=fun h=>by
    unfold Bw;rw [if_pos h0,if_neg h2,if_pos h]
   (refine bgo Tryz.func173 ?_;simp only [go_sem,simprocAttr,wi1 (i:=(uq (s.drop 1)).2.1) omg]);(repeat' (first | (apply iteI <;> intro h)|(refine Jqd ?_)|((first | (refine Jqi ?_)|(refine Jqa (Bj s [46] hs sm) ?_)|(refine Jqa (Nw (s.drop 1) (by simp;omega)) ?_)|(refine Jqa (Ts (s.drop 1) (by simp;omega)) ?_)|(refine Jqb (Er (uq (s.drop 1)).1 omg) ?_)|(refine Jqb (Kt (uq (s.drop 1)).1 omg u1) ?_));simp only [go_sem,simprocAttr,h0,hw,w1,wi1 (i:=(uq (s.drop 1)).2.1) omg]) | fail))
   ·rw [no (.inl omg)];exact ⟨rfl,rfl⟩
   ·rw [no (.inr (.inl (by assumption)))];exact ⟨rfl,rfl⟩
   ·rw [no (.inr (.inr (by assumption)))];exact ⟨rfl,rfl⟩
   ·have e:Bw s=(⟨false,(uq (s.drop 1)).1,0⟩,(uq (s.drop 1)).2.1+1):=by
     unfold Bw;rw [if_pos h0,if_neg h2,if_neg];rintro (h | h | h)
     ·omega
     ·contradiction
     ·exact absurd h (by assumption)
    rw [e];exact ⟨rfl,rfl⟩
 ·have e:Bw s=(Dv,0):=by unfold Bw;rw [if_neg h0]
  rw [e];exact Ja3 s hs h0
def eI (s:List UInt8):Int:=Lib.indexByte s (93:Int).toNat.toUInt8
def pT (s:List UInt8):List UInt8:=(s.drop 1).take ((eI s).toNat - 1)
theorem Jea {s:List UInt8} {e:Nat} (h:eI s=e):e<s.length:=by
 have:=(Lib.indexByte_some h).1;exact (List.getElem?_eq_some_iff.1 this).1
def Ce (s:List UInt8):Step×Nat :=
 if s.take 1=[91]∧2≤eI s∧eI s≤8 then
  match Lib.atoiAll (pT s) with
  | .ok n=>if 0≤n∧n≤1000000∧Lib.itoa n=pT s then (⟨true,[],n⟩,(eI s).toNat+1) else (Dv,0)
  | _=>(Dv,0)
 else (Dv,0)
theorem Gg (s:List UInt8):Det cx 206 [.p (.str s),.p (.int .u8 93)] [] (.p (.int .i64 (eI s))) []:=Fu s 93
theorem Jhg (s:List UInt8) (hs:s.length≤1000000) (h0:¬ (s.take 1=[91]∧2≤eI s∧eI s≤8)):Det cx 175 [.p (.str s)] [] (.tup [.agg Dv.cells,.int .i64 0]) []:=by
 (refine bgo Tryz.func175 ?_;simp only [go_sem,simprocAttr]);(repeat' (first | (apply iteI <;> intro h)|(refine Jqd ?_)|((first | (refine Jqa (Gg s) ?_)|(refine Jqa (Bj s [91] hs sm) ?_));simp only [go_sem,simprocAttr]) | fail))
 ·rfl
 ·rfl
 ·rfl
 ·exact absurd ⟨Decidable.not_not.1 (by assumption),by omega,by omega⟩ h0
theorem Q1 (s:List UInt8) (hs:s.length≤1000000) (e:Nat) (he:eI s=e) (h0:s.take 1=[91]) (h1:2≤e) (h2:e≤8) (h3:∃ a,Qh ((s.drop 1).take (e - 1))=.tup [.int .i64 a,.ifc]):Det cx 175 [.p (.str s)] [] (.tup [.agg Dv.cells,.int .i64 0]) []:=by
 obtain ⟨a,h3⟩:=h3;have hl:=Jea he;(refine bgo Tryz.func175 ?_;simp only [go_sem,simprocAttr]);(repeat' (first | (apply iteI <;> intro h)|(refine Jqd ?_)|((first | (refine Jqi ?_)|(refine Jqa (Gg s) ?_)|(refine Jqa (Bj s [91] hs sm) ?_)|(refine Jqa (U9 ((s.drop 1).take (e - 1)) (by simp;omega)) ?_));simp only [go_sem,simprocAttr,h0,he,h3])|(exfalso;omega)));rfl
theorem Jgb (s:List UInt8) (hs:s.length≤1000000) (e:Nat) (he:eI s=e) (h0:s.take 1=[91]) (h1:2≤e) (h2:e≤8) (n:Int) (hn:n≤9223372036854775807) (hn0:-9223372036854775808≤n) (h3:Qh ((s.drop 1).take (e - 1))=.tup [.int .i64 n,.nifc]):Det cx 175 [.p (.str s)] [] (.tup [.agg (if 0≤n∧n≤1000000∧Lib.itoa n=(s.drop 1).take (e - 1) then (⟨true,[],n⟩,e+1) else (Dv,0):Step×Nat).1.cells,.int .i64 (if 0≤n∧n≤1000000∧Lib.itoa n=(s.drop 1).take (e - 1) then (⟨true,[],n⟩,e+1) else (Dv,0):Step×Nat).2]) []:=by
 have hl:=Jea he;(refine bgo Tryz.func175 ?_;simp only [go_sem,simprocAttr,wi1 (i:=e) omg]);(repeat' (first | (apply iteI <;> intro h)|(refine Jqd ?_)|((first | (refine Jqi ?_)|(refine Jqa (Gg s) ?_)|(refine Jqa (Bj s [91] hs sm) ?_)|(refine Jqa (U9 ((s.drop 1).take (e - 1)) (by simp;omega)) ?_)|(refine Jqb (N0 n hn0 hn) ?_));simp only [go_sem,simprocAttr,h0,he,h3,wi1 (i:=e) omg])|(exfalso;omega)))
 ·rw [if_neg omg];exact ⟨rfl,rfl⟩
 ·rw [if_neg (fun h=>absurd h.2.2 (by assumption))];exact ⟨rfl,rfl⟩
 ·rw [if_neg omg];exact ⟨rfl,rfl⟩
 ·rw [if_pos ⟨by omega,by omega,Decidable.not_not.1 (by assumption)⟩];exact ⟨rfl,rfl⟩
theorem Jr (s:List UInt8) (hs:s.length≤1000000):Det cx 175 [.p (.str s)] [] (.tup [.agg (Ce s).1.cells,.int .i64 (Ce s).2]) []:=by
 by_cases h:s.take 1=[91]∧2≤eI s∧eI s≤8
 ·obtain ⟨h0,h1,h2⟩:=h;obtain ⟨e,he⟩:∃ e:Nat,eI s=e:=⟨(eI s).toNat,by omega⟩
  have hl:=Jea he;have hT:pT s=(s.drop 1).take (e - 1):=by unfold pT;rw [he];rfl
  unfold Ce;rw [if_pos ⟨h0,h1,h2⟩,hT,he];cases ha:Lib.atoiAll ((s.drop 1).take (e - 1)) with
  | ok n =>
   have hb:=Lib.atoiAll_bounds ha;exact Jgb s hs e he h0 omg omg n hb.2 hb.1 (by unfold Qh;rw [ha])
  | range=>exact Q1 s hs e he h0 omg omg ⟨_,by unfold Qh;rw [ha]⟩
  | _=>exact Q1 s hs e he h0 omg omg ⟨_,by unfold Qh;rw [ha]⟩
 ·unfold Ce;rw [if_neg h];exact Jhg s hs h
end Go.LX
namespace Go.LX
open Go Go.RowKit Go.Proofs
def PLe (x y:PV):Prop:=x=y∨(x=.snil∧y=.sl [])
def psLe:List PV→List PV→Prop
 | [],[]=>True
 | x :: xs,y :: ys=>PLe x y∧psLe xs ys
 | _,_=>False
theorem PLe.refl (x:PV):PLe x x:=.inl rfl
theorem PLe.nil:PLe .snil (.sl []):=.inr ⟨rfl,rfl⟩
theorem PLe.rep {w:World} {Im:Nat→Prop} {v:Value} {x y:PV} (h:PLe x y) (hr:PRep w Im v x):PRep w Im v y:=by
 rcases h with rfl | ⟨rfl,rfl⟩
 ·exact hr
 ·cases hr;exact PRep.slNil
theorem T7:∀ {a b:List PV},psLe a b→a.length=b.length∧∀ (i:Nat) (y:PV),b[i]? = some y→∃ x,a[i]? = some x∧PLe x y
 | [],[],_=>⟨rfl,fun i l' h=>by simp at h⟩
 | x :: a,y :: b,h=>by
  obtain ⟨h1,h2⟩:=h;obtain ⟨h3,h4⟩:=T7 h2;refine ⟨by simp [h3],fun i l' hl=>?_⟩;cases i with
  | zero=>simp at hl;subst hl;exact ⟨x,rfl,h1⟩
  | succ i=>simp at hl;simpa using h4 i l' hl
 | [],_ :: _,h=>h.elim
 | _ :: _,[],h=>h.elim
def OLe (l l':L):Prop:=l=l'∨(∃ x y,l=.p x∧l'=.p y∧PLe x y)∨∃ a b,l=.tup a∧l'=.tup b∧psLe a b
theorem OLe.rep {β:Env} {w:World} {Im:Nat→Prop} {v:Value} {l l':L} (h:OLe l l') (hr:LRep β w Im v l):LRep β w Im v l':=by
 rcases h with rfl | ⟨x,y,rfl,rfl,h⟩ | ⟨a,b,rfl,rfl,h⟩
 ·exact hr
 ·exact h.rep hr
 ·obtain ⟨vs,h1,h2,h3⟩:=hr;obtain ⟨g1,g2⟩:=T7 h;refine ⟨vs,h1,by rw [h2,g1],fun i x p hx hp=>?_⟩;obtain ⟨q,hq,hle⟩:=g2 i p hp;exact hle.rep (h3 i x q hx hq)
theorem Al.weak {X:Cx} {f:FuncId} {args:List L} {rs:Regs} {Post Post':L→Regs→Prop} (h:Al X f args rs Post) (hp:∀ l q,Post l q→∃ l',OLe l l'∧Post' l' q):Al X f args rs Post' :=
 ⟨h.1,fun β Im w vs hg hf=>(h.2 β Im w vs hg hf).mono fun _ _ ⟨v,l,rs',β',Im',he,hP,hr,hc⟩=>by
  obtain ⟨l',h1,h2⟩:=hp _ _ hP;exact ⟨v,l',rs',β',Im',he,h2,h1.rep hr,hc⟩⟩
theorem Det.weak {X:Cx} {f:FuncId} {args:List L} {rs rs':Regs} {l':L} (h:Al X f args rs fun m q=>OLe m l'∧q=rs'):Det X f args rs l' rs' :=
 h.weak fun l q ⟨h1,h2⟩=>⟨l',h1,rfl,h2⟩
theorem Jrq {a b:List PV} (h:psLe a b):OLe (.tup a) (.tup b):=.inr (.inr ⟨_,_,rfl,rfl,h⟩)
attribute [local irreducible] Al Bi SWP
def Ee (s:List UInt8) (i:Nat):Step×Nat :=
 if (Bw (s.drop i)).2≠0 then Bw (s.drop i)
 else if i=0 then (if s.take 1=[46]∧(Ce (s.drop 1)).2≠0 then ((Ce (s.drop 1)).1,(Ce (s.drop 1)).2+1) else (Dv,0))
 else Ce (s.drop i)
def Fl (s:List UInt8):Nat→Nat→List Step→List Step×Nat
 | 0,i,p=>(p,i)
 | f+1,i,p=>if i<s.length∧p.length<20∧(Ee s i).2≠0 then Fl s f (i+(Ee s i).2) (p ++ [(Ee s i).1]) else (p,i)
def Mp (s:List UInt8):List Step×Nat:=Fl s (s.length+1) 0 []
def Je (s:List UInt8):List Step×Nat×Nat :=
 if s=[46] then ([],0,0)
 else if (Mp s).2<s.length∨(Mp s).1.length=0 then ([],(Mp s).2,1)
 else ((Mp s).1,0,0)
theorem Jf2 (s:List UInt8):(Bw s).2≤s.length:=by
 unfold Bw;split
 ·rename_i h0;have h1:1≤s.length:=by cases s <;> simp at h0 ⊢
  have hw:=P3 (s.drop 1);have hu:=(Jl8 (s.drop 1)).2.2;rw [List.length_drop] at hw hu;split
  ·simp only;omega
  ·split <;> simp only <;> omega
 ·exact Nat.zero_le _
theorem Zo (s:List UInt8):(Ce s).2≤s.length:=by
 unfold Ce;split
 ·rename_i h;obtain ⟨e,he⟩:∃ e:Nat,eI s=e:=⟨(eI s).toNat,by omega⟩
  have hl:=Jea he;split
  ·split
   ·simp only;omega
   ·exact Nat.zero_le _
  ·exact Nat.zero_le _
 ·exact Nat.zero_le _
theorem J59 {s:List UInt8} {i:Nat} (h:i≤s.length):i+(Ee s i).2≤s.length:=by
 have h1:=Jf2 (s.drop i);have h2:=Zo (s.drop i);have h3:=Zo (s.drop 1);rw [List.length_drop] at h1 h2 h3;unfold Ee;split
 ·omega
 ·split
  ·subst i;split
   ·rename_i h0;have h1:1≤s.length:=by have:=h0.1;cases s <;> simp at this ⊢
    simp only;omega
   ·simp only;omega
  ·omega
theorem Gv {s:List UInt8} {f i:Nat} {p:List Step} (h:¬ (i<s.length∧p.length<20∧(Ee s i).2≠0)):Fl s f i p=(p,i):=by
 cases f with
 | zero=>rfl
 | succ f=>rw [Fl,if_neg h]
theorem Kn (p q:List Step):Bb (p ++ q)=Bb p ++ Bb q:=by simp [Bb]
theorem Jjx (s:List UInt8) (hs:s.length≤1000000):Det cx 146 [.p (.str s)] [] (.tup [.sl (Bb (Je s).1),.int .i64 (Je s).2.1,.int .i64 (Je s).2.2]) []:=by
 refine Det.weak ?_;by_cases hd:s=[46]
 ·subst hd;(refine bgo Tryz.func146 ?_;simp only [go_sem,simprocAttr]);exact Jrq ⟨.nil,.refl _,.refl _,trivial⟩
 ·have hd':(s=[46])=False:=eq_false hd;(refine bgo Tryz.func146 ?_;simp only [go_sem,simprocAttr,hd']);refine Jsr (Jy0 _ (i:=5) (d:=59) 67 3 (.inl de) rfl) ?_;simp only [St.nilOwn,St.nilReg,go_sem,simprocAttr,hd'];refine SWP.loop (fun x:Nat×Nat×List Step=>⟨Ba 74 [(0,.p (.str s)),(5,.own 59 0 x.2.2.length),(6,.p (.int .i64 x.1))],[(59,.row 67 3 (Bb x.2.2))]⟩) (fun x=>x.1≤s.length∧s.length+1≤x.1+x.2.1∧x.2.2.length≤20∧Fl s x.2.1 x.1 x.2.2=Mp s) (fun x=>s.length - x.1) (0,s.length+1,[]) (by rw [show Bb []=[] from rfl];exact Jqe) ⟨Nat.zero_le _,by simp,by simp,rfl⟩ ?_;rintro ⟨i,f,p⟩ ⟨h1,h2,h3,h4⟩;simp only at h1 h2 h3 h4;have hf:=Jf2 (s.drop i);have hp:=Zo (s.drop i);rw [List.length_drop] at hf hp;have wl (n:Nat) (hn:n≤3000000):IntKind.i64.wrap ((i:Int)+(n:Int))=((i+n:Nat):Int):=Aa omg omg;have bad:Fl s f i p=(p,i)→(i<s.length∨p.length=0)→Je s=([],i,1):=fun h h'=>by
   rw [h] at h4;unfold Je;rw [if_neg hd,← h4,if_pos h']
  have good:Fl s f i p=(p,i)→¬ (i<s.length∨p.length=0)→Je s=(p,0,0):=fun h h'=>by
   rw [h] at h4;unfold Je;rw [if_neg hd,← h4,if_neg h']
  have htk:(Bb p).take p.length=Bb p:=List.take_of_length_le sm;by_cases hc:¬ (i<s.length∧p.length<20)
  ·have hst:Fl s f i p=(p,i):=Gv fun h=>hc ⟨h.1,h.2.1⟩
   (refine lws ?_;simp only [go_sem,simprocAttr,Aq,htk,Nat.le_refl]);(repeat' (first | (apply iteI <;> intro h)|(refine Jqd ?_)|(exfalso;omega)))
   ·rw [bad hst omg];exact Jrq ⟨.nil,.refl _,.refl _,trivial⟩
   ·rw [bad hst omg];exact Jrq ⟨.nil,.refl _,.refl _,trivial⟩
   ·rw [good hst omg];exact .inl rfl
  ·have hc:=Decidable.not_not.1 hc;have hdl:(s.drop i).length≤1000000:=by rw [List.length_drop];omega
   obtain ⟨g,rfl⟩:∃ g,f=g+1:=⟨f - 1,by omega⟩
   by_cases hfi:(Bw (s.drop i)).2≠0
   ·have hn:Ee s i=Bw (s.drop i):=by unfold Ee;rw [if_pos hfi]
    have hel:Bb p ++ [(Bw (s.drop i)).1.cells]=Bb (p ++ [(Bw (s.drop i)).1]):=by rw [Kn];rfl
    rw [Fl,hn,if_pos ⟨hc.1,hc.2,hfi⟩] at h4;have hw:=wl (Bw (s.drop i)).2 omg;have hel':Bb p ++ [[.bool (Bw (s.drop i)).1.part,.str (Bw (s.drop i)).1.name,.int .i64 (Bw (s.drop i)).1.n]]=Bb (p ++ [(Bw (s.drop i)).1]):=hel;(refine lws ?_;simp only [go_sem,simprocAttr,Aq,htk,Nat.le_refl,Aq,htk,Nat.le_refl]);(repeat' (first | (apply iteI <;> intro h)|(refine Jqd ?_)|((refine Jqa (Ev (s.drop i) hdl) ?_);simp only [go_sem,simprocAttr,Aq,htk,Nat.le_refl,Aq,htk,Nat.le_refl,Step.cells,hel',hw])|(exfalso;omega)));refine ⟨by simp,by omega,by omega,(i+(Bw (s.drop i)).2,g,p ++ [(Bw (s.drop i)).1]),⟨by simp only;omega,by simp only;omega,by simp only [List.length_append,List.length_singleton];omega,h4⟩,by simp only;omega,?_⟩;simp only [List.length_append,List.length_singleton];exact Jqe
   ·have hf0:(Bw (s.drop i)).2=0:=by omega
    have w01:IntKind.i64.wrap 1=1:=by decide
    rw [Fl] at h4;by_cases hi:i=0
    ·have hi0:(i:Int)=0:=by omega
     have e0:s.drop i=s:=by rw [hi];rfl
     rw [e0] at hf0;by_cases hdot:s.take 1=[46]
     ·have hd1:(s.drop 1).length≤1000000:=by rw [List.length_drop];omega
      have hp1:=Zo (s.drop 1);have hs1:1≤s.length:=by cases s <;> simp at hdot ⊢
      rw [List.length_drop] at hp1;by_cases hpz:(Ce (s.drop 1)).2=0
      ·have hn:(Ee s i).2=0:=by unfold Ee;rw [if_neg hfi,if_pos hi,if_neg (fun h=>h.2 hpz)]
       have hst:Fl s (g+1) i p=(p,i):=Gv fun h=>h.2.2 hn
       have hel':=hi0;have hw:=hpz;(refine lws ?_;simp only [go_sem,simprocAttr,Aq,htk,Nat.le_refl,Aq,htk,Nat.le_refl,hel',Aq,htk,Nat.le_refl,hel']);(repeat' (first | (apply iteI <;> intro h)|(refine Jqd ?_)|((first | (refine Jqa (Ev s hs) ?_)|(refine Jqa (Bj s [46] hs sm) ?_)|(refine Jqa (Jr (s.drop 1) hd1) ?_));simp only [go_sem,simprocAttr,Aq,htk,Nat.le_refl,Aq,htk,Nat.le_refl,Step.cells,hw,Aq,htk,Nat.le_refl,Step.cells,hw,hf0,hdot,w01])|(exfalso;omega)));rw [bad hst omg,hi];exact Jrq ⟨.nil,.refl _,.refl _,trivial⟩
      ·have hn:Ee s i=((Ce (s.drop 1)).1,(Ce (s.drop 1)).2+1):=by unfold Ee;rw [if_neg hfi,if_pos hi,if_pos ⟨hdot,hpz⟩]
       rw [hn,if_pos ⟨hc.1,hc.2,Nat.succ_ne_zero _⟩] at h4;have hst:IntKind.i64.wrap (((Ce (s.drop 1)).2:Int)+1)=(((Ce (s.drop 1)).2+1:Nat):Int):=wi1 omg;have hel':Bb p ++ [[.bool (Ce (s.drop 1)).1.part,.str (Ce (s.drop 1)).1.name,.int .i64 (Ce (s.drop 1)).1.n]]=Bb (p ++ [(Ce (s.drop 1)).1]):=by rw [Kn];rfl
       have hw:=hi0;(refine lws ?_;simp only [go_sem,simprocAttr,Aq,htk,Nat.le_refl,Aq,htk,Nat.le_refl,hw,Aq,htk,Nat.le_refl,hw]);(repeat' (first | (apply iteI <;> intro h)|(refine Jqd ?_)|((first | (refine Jqa (Ev s hs) ?_)|(refine Jqa (Bj s [46] hs sm) ?_)|(refine Jqa (Jr (s.drop 1) hd1) ?_));simp only [go_sem,simprocAttr,Aq,htk,Nat.le_refl,Aq,htk,Nat.le_refl,Step.cells,hel',Aq,htk,Nat.le_refl,Step.cells,hel',hf0,hdot,w01,hst])|(exfalso;omega)));refine ⟨by simp,by omega,by omega,(i+((Ce (s.drop 1)).2+1),g,p ++ [(Ce (s.drop 1)).1]),⟨by simp only;omega,by simp only;omega,by simp only [List.length_append,List.length_singleton];omega,h4⟩,by simp only;omega,?_⟩;simp only [List.length_append,List.length_singleton];rw [hi];generalize Ce (s.drop 1)=P at *
       exact Jqe
     ·have hn:(Ee s i).2=0:=by unfold Ee;rw [if_neg hfi,if_pos hi,if_neg (fun h=>hdot h.1)]
      have hst:Fl s (g+1) i p=(p,i):=Gv fun h=>h.2.2 hn
      have hel':=hi0;have hw:=hdot;(refine lws ?_;simp only [go_sem,simprocAttr,Aq,htk,Nat.le_refl,Aq,htk,Nat.le_refl,hel',Aq,htk,Nat.le_refl,hel']);(repeat' (first | (apply iteI <;> intro h)|((first | (refine Jqa (Ev s hs) ?_)|(refine Jqa (Bj s [46] hs sm) ?_));simp only [go_sem,simprocAttr,Aq,htk,Nat.le_refl,Aq,htk,Nat.le_refl,Step.cells,hw,Aq,htk,Nat.le_refl,Step.cells,hw,hf0])|(exfalso;omega)));rw [bad hst omg,hi];exact Jrq ⟨.nil,.refl _,.refl _,trivial⟩
    ·by_cases hpz:(Ce (s.drop i)).2=0
     ·have hn:(Ee s i).2=0:=by unfold Ee;rw [if_neg hfi,if_neg hi,hpz]
      have hst:Fl s (g+1) i p=(p,i):=Gv fun h=>h.2.2 hn
      have hel':=hpz;have hw:IntKind.i64.wrap ((i:Int)+0)=(i:Int):=by rw [Int.add_zero];exact Aa omg omg
      have hdot:=hi;(refine lws ?_;simp only [go_sem,simprocAttr,Aq,htk,Nat.le_refl,Aq,htk,Nat.le_refl,Aq,htk,Nat.le_refl]);(repeat' (first | (apply iteI <;> intro h)|(refine Jqd ?_)|((first | (refine Jqa (Ev (s.drop i) hdl) ?_)|(refine Jqa (Jr (s.drop i) hdl) ?_));simp only [go_sem,simprocAttr,Aq,htk,Nat.le_refl,Aq,htk,Nat.le_refl,Step.cells,hel',hw,Aq,htk,Nat.le_refl,Step.cells,hel',hw,hf0])|(exfalso;omega)));rw [bad hst omg];exact Jrq ⟨.nil,.refl _,.refl _,trivial⟩
     ·have hn:Ee s i=Ce (s.drop i):=by unfold Ee;rw [if_neg hfi,if_neg hi]
      have hel':Bb p ++ [[.bool (Ce (s.drop i)).1.part,.str (Ce (s.drop i)).1.name,.int .i64 (Ce (s.drop i)).1.n]]=Bb (p ++ [(Ce (s.drop i)).1]):=by rw [Kn];rfl
      rw [hn,if_pos ⟨hc.1,hc.2,hpz⟩] at h4;have hw:IntKind.i64.wrap ((i:Int)+0)=(i:Int):=by rw [Int.add_zero];exact Aa omg omg
      have hdot:=hi;have hst:=wl (Ce (s.drop i)).2 omg;have w01:IntKind.i64.wrap (((Ce (s.drop i)).2:Int)+0)=((Ce (s.drop i)).2:Int):=by rw [Int.add_zero];exact Aa omg omg
      (refine lws ?_;simp only [go_sem,simprocAttr,Aq,htk,Nat.le_refl,Aq,htk,Nat.le_refl,Aq,htk,Nat.le_refl]);(repeat' (first | (apply iteI <;> intro h)|(refine Jqd ?_)|((first | (refine Jqa (Ev (s.drop i) hdl) ?_)|(refine Jqa (Jr (s.drop i) hdl) ?_));simp only [go_sem,simprocAttr,Aq,htk,Nat.le_refl,Aq,htk,Nat.le_refl,Step.cells,hel',hw,Aq,htk,Nat.le_refl,Step.cells,hel',hw,hf0,w01,hst])|(exfalso;omega)));refine ⟨by simp,by omega,by omega,(i+((Ce (s.drop i)).2),g,p ++ [(Ce (s.drop i)).1]),⟨by simp only;omega,by simp only;omega,by simp only [List.length_append,List.length_singleton];omega,h4⟩,by simp only;omega,?_⟩;simp only [List.length_append,List.length_singleton];exact Jqe
theorem B9 (s:List UInt8) (hs:s.length≤1000000000):Det cx 112 [.ptr 1000 0 0,.p (.str s)] [(1000,.var 107 [.p .nptr,.p .snil])] (.tup [.int .i64 s.length,.nifc]) [(900,.row 5 1 (bstr s)),(1000,.var 107 [.ptr 1000 0 0,.own 900 0 s.length])]:=by
 (refine bgoR false [(14,900)] Tryz.func112 ?_;simp only [go_sem,simprocAttr]);(repeat' (first | ((refine Jqa (Cm) ?_);simp only [go_sem,simprocAttr]) | fail));exact ⟨X6 s,by omega,by omega,rfl⟩
def Bv (x:Step):List UInt8:=if x.part=true then 91 :: (Lib.itoa x.n ++ [93]) else if isWd x.name then 46 :: x.name else 46 :: refQ x.name
def Br (p:List Step):List UInt8:=p.flatMap Bv
def Hy (p:List Step):List UInt8:=match p with
 | []=>[46]
 | x :: _=>if x.part=true then 46 :: Br p else Br p
theorem Kx (x:Step):1≤(Bv x).length:=by
 unfold Bv;split
 ·simp
 ·split <;> simp
theorem Jd4 (s:List UInt8):(refQ s).length≤6 * s.length+2:=by
 have:=Jlg s;unfold refQ;simp;omega
theorem Jc8 {n:Int} (h0:0≤n) (h1:n≤1000000):(Lib.itoa n).length≤21:=Lib.itoa_length_le n omg omg
theorem X4 {x:Step} (h:Bc x) (hn:x.name.length≤1000):(Bv x).length≤7000:=by
 have h1:=Jd4 x.name;unfold Bc at h;unfold Bv;split
 ·rename_i hp;rw [if_pos hp] at h;have:=Jc8 h.2.1 h.2.2;simp;omega
 ·split <;> simp <;> omega
theorem Rd {p:List Step} (h:∀ x∈p,Bc x) (hn:∀ x∈p,x.name.length≤1000):(Br p).length≤7000 * p.length:=by
 induction p with
 | nil=>simp [Br]
 | cons x p ih =>
  have h1:=ih (fun y hy=>h y (List.mem_cons_of_mem _ hy)) (fun y hy=>hn y (List.mem_cons_of_mem _ hy));have h2:=X4 (h x List.mem_cons_self) (hn x List.mem_cons_self);unfold Br at *
  rw [List.flatMap_cons,List.length_append,List.length_cons];omega
theorem Uf (p q:List Step):Br (p ++ q)=Br p ++ Br q:=by simp [Br]
theorem Jeq (x:Step):Br [x]=Bv x:=by simp [Br]
def tlSt (p:List Step) (i:Nat):List UInt8→St
 | []=>⟨Ba 36 [(0,.p (.sl (Bb p))),(3,.ptr 3 0 0),(6,.p (.sl (Bb p))),(7,.p (.int .i64 p.length)),(8,.p (.int .i64 i))],[(3,.var 107 [.p .nptr,.p .snil])]⟩
 | c :: t=>⟨Ba 36 [(0,.p (.sl (Bb p))),(3,.ptr 3 0 0),(6,.p (.sl (Bb p))),(7,.p (.int .i64 p.length)),(8,.p (.int .i64 i))],[(25,.row 5 1 (bstr (c :: t))),(3,.var 107 [.ptr 3 0 0,.own 25 0 (c :: t).length])]⟩
theorem Fh {p:List Step} {i:Nat} {out:List UInt8} (h:out≠[]):tlSt p i out=⟨Ba 36 [(0,.p (.sl (Bb p))),(3,.ptr 3 0 0),(6,.p (.sl (Bb p))),(7,.p (.int .i64 p.length)),(8,.p (.int .i64 i))],[(25,.row 5 1 (bstr out)),(3,.var 107 [.ptr 3 0 0,.own 25 0 out.length])]⟩:=by
 cases out with
 | nil=>exact absurd rfl h
 | cons c t=>rfl
theorem Kb {p:List Step} {i:Nat}:tlSt p i []=⟨Ba 36 [(0,.p (.sl (Bb p))),(3,.ptr 3 0 0),(6,.p (.sl (Bb p))),(7,.p (.int .i64 p.length)),(8,.p (.int .i64 i))],[(3,.var 107 [.p .nptr,.p .snil])]⟩:=rfl
theorem N4 (p:List Step) (hp:p.length≤100) (hok:∀ x∈p,Bc x) (hn:∀ x∈p,x.name.length≤1000):Det cx 91 [.p (.sl (Bb p))] [] (.p (.str (Br p))) []:=by
 (refine bgo Tryz.func91 ?_;simp only [go_sem,simprocAttr,Aq]);refine SWP.loop (fun i:Nat=>tlSt p i (Br (p.take i))) (fun i=>i≤p.length) (fun i=>p.length - i) 0 (by show St.Le _ (tlSt p 0 []);rw [Kb];exact Jqe) (Nat.zero_le _) ?_;rintro i hi;have hT:=Rd (p:=p.take i) (fun x hx=>hok x (List.mem_of_mem_take hx)) (fun x hx=>hn x (List.mem_of_mem_take hx));rw [List.length_take] at hT;by_cases hlt:¬ i<p.length
 ·have hc:((i:Int)<(p.length:Int))=False:=eq_false omg;have htl:p.take i=p:=List.take_of_length_le omg;rw [htl] at hT ⊢;by_cases hne:Br p=[]
  ·rw [hne,Kb];(refine lws ?_;simp only [go_sem,simprocAttr,hc]);(repeat' (first | ((refine Jqa (Fa) ?_);simp only [go_sem,simprocAttr]) | fail))
  ·have hl0:(Br p).length≠0:=fun h=>hne (List.eq_nil_of_length_eq_zero h)
   rw [Fh hne];(refine lws ?_;simp only [go_sem,simprocAttr,hc]);(repeat' (first | ((refine Jqa (Eo (Br p) _ rfl omg hl0) ?_);simp only [go_sem,simprocAttr]) | fail))
 ·have hlt:=Decidable.not_not.1 hlt;obtain ⟨x,hx⟩:∃ x,p[i]? = some x:=⟨_,List.getElem?_eq_getElem hlt⟩
  have hg:=Dk hx;have hm':=List.mem_of_getElem? hx;have hc:((i:Int)<(p.length:Int))=True:=eq_true omg;have hox:=hok x hm';have hnx:=hn x hm';have hS:=X4 hox hnx;have hS1:=Kx x;have hnext:Br (p.take (i+1))=Br (p.take i) ++ Bv x:=by rw [List.take_add_one,hx,Option.toList_some,Uf,Jeq]
  have hnn:Br (p.take (i+1))≠[]:=fun h=>by rw [hnext] at h;rw [(List.append_eq_nil_iff.1 h).2] at hS1;simp at hS1
  have hrow:bstr (Br (p.take (i+1)))=bstr (Br (p.take i)) ++ bstr (Bv x):=by rw [hnext,Gz]
  have hlen:(Br (p.take (i+1))).length=(Br (p.take i)).length+(Bv x).length:=by rw [hnext,List.length_append]
  have hw:=wi1 (i:=i) omg;cases hpt:x.part
  ·unfold Bc at hox;rw [if_neg (by simp [hpt])] at hox;by_cases hwd:isWd x.name
   ·have hst:Bv x=46 :: x.name:=by unfold Bv;rw [if_neg (by simp [hpt]),if_pos hwd]
    have hdw:decide (isWd x.name)=true:=decide_eq_true hwd;by_cases hne:Br (p.take i)=[]
    ·rw [hne,Kb];rw [hne,show bstr []=[] from rfl,List.nil_append] at hrow;rw [hne,List.length_nil,Nat.zero_add] at hlen;(refine lws ?_;simp only [go_sem,simprocAttr,hc,hg,hpt]);(repeat' (first | (refine Jqd ?_)|((first | (refine Jqa (Er x.name omg) ?_)|(refine Jqa (B9 (46 :: x.name) (by rw [← hst];omega)) ?_));simp only [go_sem,simprocAttr,hw,hdw]) | fail));refine ⟨i+1,by omega,by omega,?_⟩;rw [Fh hnn,hrow,hlen,hst];refine St.Le.trans (B1 [(33,25)] _ sm) ?_;simp only [go_sem,simprocAttr];exact Jqe
    ·rw [Fh hne];(refine lws ?_;simp only [go_sem,simprocAttr,hc,hg,hpt]);(repeat' (first | (refine Jqd ?_)|((first | (refine Jqa (Er x.name omg) ?_)|(refine Jqa (Bx (46 :: x.name) _ _ (Di _) omg (by rw [← hst];omega)) ?_));simp only [go_sem,simprocAttr,hw,hdw]) | fail));refine ⟨i+1,by omega,by omega,?_⟩;rw [Fh hnn,hrow,hlen,hst];exact Jqe
   ·have hst:Bv x=46 :: refQ x.name:=by unfold Bv;rw [if_neg (by simp [hpt]),if_neg hwd]
    have hdw:decide (isWd x.name)=false:=decide_eq_false hwd;have hQ:=Jd4 x.name;by_cases hne:Br (p.take i)=[]
    ·rw [hne,Kb];rw [hne,show bstr []=[] from rfl,List.nil_append] at hrow;rw [hne,List.length_nil,Nat.zero_add] at hlen;(refine lws ?_;simp only [go_sem,simprocAttr,hc,hg,hpt]);(repeat' (first | (refine Jqd ?_)|((first | (refine Jqa (Er x.name omg) ?_)|(refine Jqa (Kt x.name omg hox.2) ?_)|(refine Jqa (B9 (46 :: refQ x.name) (by rw [← hst];omega)) ?_));simp only [go_sem,simprocAttr,hw,hdw]) | fail));refine ⟨i+1,by omega,by omega,?_⟩;rw [Fh hnn,hrow,hlen,hst];refine St.Le.trans (B1 [(16,25)] _ sm) ?_;simp only [go_sem,simprocAttr];exact Jqe
    ·rw [Fh hne];(refine lws ?_;simp only [go_sem,simprocAttr,hc,hg,hpt]);(repeat' (first | (refine Jqd ?_)|((first | (refine Jqa (Er x.name omg) ?_)|(refine Jqa (Kt x.name omg hox.2) ?_)|(refine Jqa (Bx (46 :: refQ x.name) _ _ (Di _) omg (by rw [← hst];omega)) ?_));simp only [go_sem,simprocAttr,hw,hdw]) | fail));refine ⟨i+1,by omega,by omega,?_⟩;rw [Fh hnn,hrow,hlen,hst];exact Jqe
  ·have hst:Bv x=91 :: (Lib.itoa x.n ++ [93]):=by unfold Bv;rw [if_pos hpt]
   have hb:0≤x.n∧x.n≤1000000:=by unfold Bc at hox;rw [if_pos hpt] at hox;exact hox.2
   have hdw:=Jc8 hb.1 hb.2;by_cases hne:Br (p.take i)=[]
   ·rw [hne,Kb];rw [hne,show bstr []=[] from rfl,List.nil_append] at hrow;rw [hne,List.length_nil,Nat.zero_add] at hlen;(refine lws ?_;simp only [go_sem,simprocAttr,hc,hg,hpt]);(repeat' (first | (refine Jqd ?_)|((first | (refine Jqa (N0 x.n omg omg) ?_)|(refine Jqa (B9 (91 :: (Lib.itoa x.n ++ [93])) (by rw [← hst];omega)) ?_));simp only [go_sem,simprocAttr,hw]) | fail));refine ⟨i+1,by omega,by omega,?_⟩;rw [Fh hnn,hrow,hlen,hst];exact Jqe
   ·rw [Fh hne];(refine lws ?_;simp only [go_sem,simprocAttr,hc,hg,hpt]);(repeat' (first | (refine Jqd ?_)|((first | (refine Jqa (N0 x.n omg omg) ?_)|(refine Jqa (Bx (91 :: (Lib.itoa x.n ++ [93])) _ _ (Di _) omg (by rw [← hst];omega)) ?_));simp only [go_sem,simprocAttr,hw]) | fail));refine ⟨i+1,by omega,by omega,?_⟩;rw [Fh hnn,hrow,hlen,hst];exact Jqe
theorem Ui (p:List Step) (hp:p.length≤100) (hok:∀ x∈p,Bc x) (hn:∀ x∈p,x.name.length≤1000):Det cx 53 [.p (.sl (Bb p))] [] (.p (.str (Hy p))) []:=by
 have hT:=Rd hok hn;cases p with
 | nil =>
  (refine bgo Tryz.func53 ?_;simp only [go_sem,simprocAttr]);(repeat' (first | (apply iteI <;> intro h)|(refine J0k ?_;intro b hb)|(refine Jqd ?_)|((refine Jqa (N4 [] hp hok hn) ?_);simp only [go_sem,simprocAttr]) | fail))
  ·rfl
  ·exact absurd rfl (by assumption)
 | cons x p =>
  have hg:(Bb (x :: p))[0]? = some [.bool x.part,.str x.name,.int .i64 x.n]:=rfl;rw [List.length_cons] at hT;unfold Hy;cases hpt:x.part
  ·(refine bgo Tryz.func53 ?_;simp only [go_sem,simprocAttr,Aq,hg,hpt]);(repeat' (first | (apply iteI <;> intro h)|(refine Jqd ?_)|((refine Jqa (N4 (x :: p) hp hok hn) ?_);simp only [go_sem,simprocAttr])|(exfalso;omega)))
  ·(refine bgo Tryz.func53 ?_;simp only [go_sem,simprocAttr,Aq,hg,hpt]);(repeat' (first | (apply iteI <;> intro h)|((refine Jqa (N4 (x :: p) hp hok hn) ?_);simp only [go_sem,simprocAttr])|(exfalso;omega)));rw [List.length_cons] at hp;omega
def dgc (k:Nat):UInt8:=UInt8.ofNat (48+k % 10)
def hiD (m:Nat):List UInt8:=if m<10 then [] else Lib.decDigits (m / 10)
theorem Jvg (m:Nat):Lib.decDigits m=hiD m ++ [dgc m]:=by
 rw [Lib.decDigits];unfold hiD dgc;split
 ·rw [Nat.mod_eq_of_lt omg];rfl
 ·rfl
theorem Jv9 (n:Nat) (hn:n≤850000000000):Det cx 60 [.p (.int .i64 n)] [] (.p (.str (Lib.decDigits n))) []:=by
 have hm10 (k:Nat):(k:Int).tmod 10=((k % 10:Nat):Int):=rfl;have hd10 (k:Nat):(k:Int).tdiv 10=((k / 10:Nat):Int):=rfl;have hw (k:Nat):IntKind.i64.wrap (48+((k % 10:Nat):Int))=((48+k % 10:Nat):Int):=by rw [Aa omg omg];omega
 have hu (k:Nat):u8of ((48+k % 10:Nat):Int)=dgc k:=by
  apply UInt8.toNat_inj.1;have h1:=B8 (c:=((48+k % 10:Nat):Int)) omg omg;unfold dgc;rw [UInt8.toNat_ofNat'];omega
 have hwd (k:Nat) (hk:k≤850000000000):IntKind.i64.wrap ((k / 10:Nat):Int)=((k / 10:Nat):Int):=Aa omg omg;(refine bgo Tryz.func60 ?_;simp only [go_sem,simprocAttr,hm10,hw,hu]);refine SWP.loop (fun x:Nat×List UInt8=>⟨Ba 23 [(0,.p (.int .i64 x.1)),(3,.p (.str x.2))],[]⟩) (fun x=>x.1≤n∧x.2.length+x.1≤n+1∧hiD x.1 ++ x.2=Lib.decDigits n) (fun x=>x.1) (n,[dgc n]) Jqe ⟨Nat.le_refl _,by simp only [List.length_singleton];omega,(Jvg n).symm⟩ ?_;rintro ⟨m,t⟩ ⟨h1,h2,h3⟩;simp only at h1 h2 h3;have hwm:=hwd m omg;(refine lws ?_;simp only [go_sem,simprocAttr,hm10,hd10,hw,hu,hwm]);(repeat' (first | (apply iteI <;> intro h)|(refine Jqd ?_) | fail))
 ·have hd:=Jvg (m / 10);have hm:hiD m=Lib.decDigits (m / 10):=by unfold hiD;rw [if_neg omg]
  rw [hm,hd] at h3;refine ⟨(m / 10,dgc (m / 10) :: t),⟨by simp only;omega,by simp only [List.length_cons];omega,?_⟩,by simp only;omega,Jqe⟩;simp only;rw [← h3,List.append_assoc];rfl
 ·have hm:hiD m=[]:=by unfold hiD;rw [if_pos omg]
  rw [hm] at h3;exact h3
def Jud (p:List Step):List UInt8:=match p with
 | []=>[]
 | x :: _=>if x.part=true then 46 :: Br p else Br p
theorem J28 {p:List Step} (h:p≠[]) (x:Step):Jud (p ++ [x])=Jud p ++ Bv x:=by
 cases p with
 | nil=>exact absurd rfl h
 | cons y p =>
  show (if y.part=true then 46 :: Br (y :: p ++ [x]) else Br (y :: p ++ [x]))=(if y.part=true then 46 :: Br (y :: p) else Br (y :: p)) ++ Bv x;rw [Uf,Jeq];split <;> rfl
theorem J2y {p:List Step} (h:p≠[]):Jud p=Hy p:=by
 cases p with
 | nil=>exact absurd rfl h
 | cons y p=>rfl
theorem J6a {p:List Step} (h:∀ x∈p,Bc x) (hn:∀ x∈p,x.name.length≤1000):(Jud p).length≤7000 * p.length+1:=by
 have:=Rd h hn;cases p with
 | nil=>simp [Jud]
 | cons y p =>
  show (if y.part=true then 46 :: Br (y :: p) else Br (y :: p)).length≤_;split
  ·rw [List.length_cons];omega
  ·omega
theorem J4o (p:List Step) (hp:p.length≤100) (hok:∀ x∈p,Bc x) (hn:∀ x∈p,x.name.length≤1000):Det cx 59 [.p (.sl (Bb p))] [] (.p (.str (Hy p))) []:=by
 by_cases he:p=[]
 ·subst he;have h0:(Bb []).length=0:=rfl;(refine bgo Tryz.func59 ?_;simp only [go_sem,simprocAttr,h0]);rfl
 ·have h0:=Aq p;have hl:p.length≠0:=fun h=>he (List.eq_nil_of_length_eq_zero h)
  (refine bgo Tryz.func59 ?_;simp only [go_sem,simprocAttr,h0]);(repeat' (first | (apply iteI <;> intro h)|(exfalso;omega)));refine SWP.loop (fun i:Nat=>⟨Ba 55 [(0,.p (.sl (Bb p))),(3,.p (.str (Jud (p.take i)))),(4,.p (.int .i64 i))],[]⟩) (fun i=>i≤p.length) (fun i=>p.length - i) 0 (by rw [show Jud (p.take 0)=[] from rfl];exact Jqe) (Nat.zero_le _) ?_;rintro i hi;have hT:=J6a (p:=p.take i) (fun x hx=>hok x (List.mem_of_mem_take hx)) (fun x hx=>hn x (List.mem_of_mem_take hx));rw [List.length_take] at hT;by_cases hlt:¬ i<p.length
  ·have hc:((i:Int)<(p.length:Int))=False:=eq_false omg;have htl:p.take i=p:=List.take_of_length_le omg;rw [htl] at hT ⊢;have hg:=hc;have hpt:=hc;have hw:=hc;have hdw:=hc;(refine lws ?_;simp only [go_sem,simprocAttr,h0,hc]);rw [J2y he]
  ·have hlt:=Decidable.not_not.1 hlt;obtain ⟨x,hx⟩:∃ x,p[i]? = some x:=⟨_,List.getElem?_eq_getElem hlt⟩
   have hg:=Dk hx;have hm':=List.mem_of_getElem? hx;have hc:((i:Int)<(p.length:Int))=True:=eq_true omg;have hox:=hok x hm';have hnx:=hn x hm';have hS:=X4 hox hnx;have hw:=wi1 (i:=i) omg;have hQ:=Jd4 x.name;have hnext:i≠0→Jud (p.take (i+1))=Jud (p.take i) ++ Bv x:=fun h=>by
    rw [List.take_add_one,hx,Option.toList_some,J28];intro e;have:=congrArg List.length e;rw [List.length_take,List.length_nil] at this;omega
   have hfirst:i=0→Jud (p.take (i+1))=(if x.part=true then 46 :: Bv x else Bv x)∧Jud (p.take i)=[]:=fun h=>by
    subst h;cases p with
    | nil=>simp at hx
    | cons y p =>
     simp at hx;subst hx;refine ⟨?_,rfl⟩;show (if y.part=true then 46 :: Br [y] else Br [y])=_;rw [Jeq]
   cases hpt:x.part
   ·unfold Bc at hox;rw [if_neg (by simp [hpt])] at hox;by_cases hwd:isWd x.name
    ·have hst:Bv x=46 :: x.name:=by unfold Bv;rw [if_neg (by simp [hpt]),if_pos hwd]
     have hdw:decide (isWd x.name)=true:=decide_eq_true hwd;(refine lws ?_;simp only [go_sem,simprocAttr,h0,hc,hg,hpt]);(repeat' (first | (refine Jqd ?_)|((refine Jqa (Jsd x.name omg) ?_);simp only [go_sem,simprocAttr,hg,hpt,hw,hdw]) | fail));by_cases hi0:i=0
     ·obtain ⟨hf1,hf2⟩:=hfirst hi0;rw [if_neg (by simp [hpt]),hst] at hf1;rw [hf2];refine ⟨by simp;omega,i+1,by omega,by omega,?_⟩;rw [hf1];exact Jqe
     ·have hn1:=hnext hi0;rw [hst] at hn1;refine ⟨by simp;omega,i+1,by omega,by omega,?_⟩;rw [hn1];simp only [List.append_assoc,List.cons_append,List.nil_append];exact Jqe
    ·have hst:Bv x=46 :: refQ x.name:=by unfold Bv;rw [if_neg (by simp [hpt]),if_neg hwd]
     have hdw:decide (isWd x.name)=false:=decide_eq_false hwd;(refine lws ?_;simp only [go_sem,simprocAttr,h0,hc,hg,hpt]);(repeat' (first | (refine Jqd ?_)|((first | (refine Jqa (Jsd x.name omg) ?_)|(refine Jqa (Js6 x.name omg) ?_));simp only [go_sem,simprocAttr,hg,hpt,hw,hdw]) | fail));by_cases hi0:i=0
     ·obtain ⟨hf1,hf2⟩:=hfirst hi0;rw [if_neg (by simp [hpt]),hst] at hf1;rw [hf2];refine ⟨by simp;omega,i+1,by omega,by omega,?_⟩;rw [hf1];exact Jqe
     ·have hn1:=hnext hi0;rw [hst] at hn1;refine ⟨by simp;omega,i+1,by omega,by omega,?_⟩;rw [hn1];simp only [List.append_assoc,List.cons_append,List.nil_append];exact Jqe
   ·have hst:Bv x=91 :: (Lib.itoa x.n ++ [93]):=by unfold Bv;rw [if_pos hpt]
    have hb:0≤x.n∧x.n≤1000000:=by unfold Bc at hox;rw [if_pos hpt] at hox;exact hox.2
    have hil:=Jc8 hb.1 hb.2;obtain ⟨k,hk⟩:∃ k:Nat,x.n=k:=⟨x.n.toNat,by omega⟩
    have hdw:=hk;rw [hk,Lib.itoa_nonneg] at hil hst;(refine lws ?_;simp only [go_sem,simprocAttr,h0,hc,hg,hpt,hdw]);(repeat' (first | (apply iteI <;> intro h)|(refine Jqd ?_)|((refine Jqa (Jv9 k omg) ?_);simp only [go_sem,simprocAttr,hw]) | fail))
    ·have hi0:i=0:=by omega
     obtain ⟨hf1,hf2⟩:=hfirst hi0;rw [if_pos hpt,hst] at hf1;refine ⟨i+1,by omega,by omega,?_⟩;rw [hf1];exact Jqe
    ·have hn1:=hnext omg;rw [hst] at hn1;refine ⟨by simp;omega,by simp;omega,i+1,by omega,by omega,?_⟩;rw [hn1];simp only [List.append_assoc,List.cons_append,List.nil_append];exact Jqe
def isDg (c:Nat):Prop:=48≤c∧c≤57
instance (c:Nat):Decidable (isDg c):=inferInstanceAs (Decidable (_∧_))
def dgR:Nat→List UInt8→List UInt8
 | k+1,c :: r=>if isDg c.toNat then c :: dgR k r else []
 | _,_=>[]
def valD (l:List UInt8):Nat:=l.foldl (fun a c=>a * 10+(c.toNat - 48)) 0
def p10:Nat→Nat
 | 0=>1
 | k+1=>10 * p10 k
theorem J6f:∀ k,k<8→p10 k≤10000000:=by decide
theorem Zl (l:List UInt8) (c:UInt8):valD (l ++ [c])=valD l * 10+(c.toNat - 48):=by simp [valD]
theorem J3p:∀ (n:Nat) (l:List UInt8),l.length=n→(∀ c∈l,isDg c.toNat)→valD l<p10 n
 | 0,l,h,_=>by rw [List.eq_nil_of_length_eq_zero h];decide
 | n+1,l,h,hd=>by
  have hne:l≠[]:=fun e=>by subst e;simp at h
  rw [← List.dropLast_concat_getLast hne,Zl];have h1:=J3p n l.dropLast (by rw [List.length_dropLast];omega) (fun c hc=>hd c (List.dropLast_subset _ hc));have h2:=hd _ (List.getLast_mem hne);unfold isDg at h2;rw [p10];omega
theorem Jc6:∀ (k:Nat) (l:List UInt8),∀ c∈dgR k l,isDg c.toNat
 | 0,l=>by simp [dgR]
 | k+1,[]=>by simp [dgR]
 | k+1,c :: r=>by
  intro d hd;rw [dgR] at hd;split at hd
  ·rcases List.mem_cons.1 hd with rfl | hd
   ·assumption
   ·exact Jc6 k r d hd
  ·cases hd
theorem Jd2:∀ (k:Nat) (l:List UInt8),(dgR k l).length≤k∧(dgR k l).length≤l.length
 | 0,l=>by simp [dgR]
 | k+1,[]=>by simp [dgR]
 | k+1,c :: r=>by
  rw [dgR];split
  ·have:=Jd2 k r;simp;omega
  ·simp
theorem Jdy:∀ (k:Nat) (l:List UInt8),dgR k l=l.take (dgR k l).length
 | 0,l=>by simp [dgR]
 | k+1,[]=>by simp [dgR]
 | k+1,c :: r=>by
  rw [dgR];split
  ·rw [List.length_cons,List.take_succ_cons,← Jdy k r]
  ·simp
def figS (s:List UInt8) (i:Nat):Int×Nat :=
 if (dgR 7 (s.drop i)).length=0∨(at_ s i=48∧1<(dgR 7 (s.drop i)).length)∨1000000<valD (dgR 7 (s.drop i)) then (-1,i)
 else (valD (dgR 7 (s.drop i)),i+(dgR 7 (s.drop i)).length)
theorem J5d {s:List UInt8} {i k:Nat} (hi:i<s.length) (hd:isDg (at_ s i)) (hk:0<k):dgR k (s.drop i)=s[i] :: dgR (k - 1) (s.drop (i+1)):=by
 rw [List.drop_eq_getElem_cons hi];obtain ⟨j,rfl⟩:∃ j,k=j+1:=⟨k - 1,by omega⟩
 rw [dgR,if_pos (by rw [Juz (List.getElem?_eq_getElem hi)] at hd;exact hd)];rfl
theorem J43 {s:List UInt8} {i k:Nat} (h:¬ (i<s.length∧isDg (at_ s i)∧0<k)):dgR k (s.drop i)=[]:=by
 by_cases hi:i<s.length
 ·rw [List.drop_eq_getElem_cons hi];cases k with
  | zero=>rfl
  | succ j=>rw [dgR,if_neg (fun hd=>h ⟨hi,by rw [Juz (List.getElem?_eq_getElem hi)];exact hd,by omega⟩)]
 ·rw [List.drop_eq_nil_of_le omg];cases k <;> rfl
theorem Jzj (s:List UInt8) (i:Nat) (hs:s.length≤1000000) (hi:i≤s.length):Det cx 192 [.p (.str s),.p (.int .i64 i)] [] (.tup [.int .i64 (figS s i).1,.int .i64 (figS s i).2]) []:=by
 (refine bgo Tryz.func192 ?_;simp only [go_sem,simprocAttr]);refine SWP.loop (fun x:Nat×List UInt8=>⟨Ba 63 [(0,.p (.str s)),(1,.p (.int .i64 (i+x.1:Nat))),(6,.p (.int .i64 (valD x.2))),(7,.p (.int .i64 i))],[]⟩) (fun x=>x.1≤7∧i+x.1≤s.length∧x.2.length=x.1∧(∀ c∈x.2,isDg c.toNat)∧x.2 ++ dgR (7 - x.1) (s.drop (i+x.1))=dgR 7 (s.drop i)) (fun x=>7 - x.1) (0,[]) (by rw [show valD []=0 from rfl];exact Jqe) ⟨by simp,by simp only;omega,rfl,by simp,by simp⟩ ?_;rintro ⟨k,l⟩ ⟨h1,h2,h3,h4,h5⟩;simp only at h1 h2 h3 h4 h5;have hv:=J3p k l h3 h4;have hp:=J6f k omg;have hw:IntKind.i64.wrap (((i+k:Nat):Int) - (i:Int))=(k:Int):=by rw [Aa omg omg];omega
 have hstop:¬ (i+k<s.length∧isDg (at_ s (i+k))∧0<7 - k)→dgR 7 (s.drop i)=l:=fun h=>by
  rw [J43 h,List.append_nil] at h5;exact h5.symm
 (refine lws ?_;simp only [go_sem,simprocAttr,hw,wi1 (i:=i) omg]);(repeat' (first | (apply iteI <;> intro h)|(refine Jqd ?_)|(exfalso;omega)))
 all_goals first
  | (exfalso;omega)
  | (
   have e:=hstop (by unfold isDg;omega);unfold figS;rw [e,if_pos omg];exact ⟨rfl,rfl⟩)
  | (
   have e:=hstop (by unfold isDg;omega);unfold figS;rw [e,if_neg omg,h3];exact ⟨rfl,rfl⟩)
  | skip
 have hlt:i+k<s.length:=by omega
 have hd:isDg (at_ s (i+k)):=by unfold isDg;omega
 have hat:at_ s (i+k)=(s[i+k]).toNat:=Juz (List.getElem?_eq_getElem hlt);rw [J5d hlt hd omg] at h5;have hp1:=J6f (k+1) omg;rw [p10] at hp1;have hv1:IntKind.i64.wrap (IntKind.i64.wrap ((valD l:Int) * 10)+IntKind.i64.wrap (IntKind.u8.wrap ((at_ s (i+k):Int) - 48)))=((valD (l ++ [s[i+k]]):Nat):Int):=by
  rw [Zl,← hat];unfold isDg at hd;simp (disch:=omega) only [Aa,Ab];omega
 rw [hv1];refine ⟨(k+1,l ++ [s[i+k]]),⟨by simp only;omega,by simp only;omega,by simp only [List.length_append,List.length_singleton];omega,?_,?_⟩,by simp only;omega,?_⟩
 ·intro c hc;rcases List.mem_append.1 hc with hc | hc
  ·exact h4 c hc
  ·rw [List.mem_singleton] at hc;subst hc;rw [← hat];exact hd
 ·simp only;rw [← h5,List.append_assoc,List.singleton_append];rfl
 ·exact Jqe
theorem Fv (m:Nat):Lib.decDigits m=if m<10 then [UInt8.ofNat (48+m)] else Lib.decDigits (m / 10) ++ [UInt8.ofNat (48+m % 10)]:=by
 rw [Lib.decDigits];split <;> rfl
theorem Qj {m:Nat} (h:m<10):(UInt8.ofNat (48+m)).toNat=48+m:=by
 rw [UInt8.toNat_ofNat'];omega
theorem Jmj:∀ m:Nat,∀ c∈Lib.decDigits m,isDg c.toNat:=by
 intro m
 induction m using Nat.strongRecOn with
 | _ m ih =>
  intro c hc;rw [Fv] at hc;split at hc
  ·rw [List.mem_singleton] at hc;subst hc;rw [Qj (by assumption)];unfold isDg;omega
  ·rcases List.mem_append.1 hc with hc | hc
   ·exact ih (m / 10) omg c hc
   ·rw [List.mem_singleton] at hc;subst hc;rw [Qj omg];unfold isDg;omega
theorem Xc:∀ m:Nat,valD (Lib.decDigits m)=m:=by
 intro m
 induction m using Nat.strongRecOn with
 | _ m ih =>
  rw [Fv];split
  ·show 0 * 10+((UInt8.ofNat (48+m)).toNat - 48)=m;rw [Qj (by assumption)];omega
  ·rw [Zl,ih (m / 10) omg,Qj omg];omega
theorem U6 (m:Nat):Lib.decDigits m≠[]:=by
 rw [Fv];split <;> simp
theorem Jg0:∀ m:Nat,∀ c r,Lib.decDigits m=c :: r→c.toNat=48→r=[]∧m=0:=by
 intro m
 induction m using Nat.strongRecOn with
 | _ m ih =>
  intro c r h hc;rw [Fv] at h;split at h
  ·cases h;rw [Qj (by assumption)] at hc;exact ⟨rfl,by omega⟩
  ·cases hd:Lib.decDigits (m / 10) with
   | nil=>exact absurd hd (U6 _)
   | cons d q =>
    rw [hd] at h;cases h;have:=(ih (m / 10) omg _ _ hd hc).2;omega
theorem Sa:∀ (n:Nat) (t:List UInt8),t.length=n+1→(∀ c∈t,isDg c.toNat)→(n=0∨at_ t 0≠48)→Lib.decDigits (valD t)=t∧(at_ t 0≠48→0<valD t)
 | 0,t,hl,hd,_=>by
  match t,hl with
  | [c],_ =>
   have hc:=hd c sm;unfold isDg at hc;have e:valD [c]=c.toNat - 48:=by show 0 * 10+(c.toNat - 48)=_;omega
   rw [e,Fv,if_pos omg];refine ⟨?_,fun h=>?_⟩
   ·congr 1;apply UInt8.toNat_inj.1;rw [Qj omg];omega
   ·have:at_ [c] 0=c.toNat:=rfl;omega
 | n+1,t,hl,hd,h0=>by
  have hne:t≠[]:=fun e=>by subst e;simp at hl
  have ht:=List.dropLast_concat_getLast hne;have hdl:t.dropLast.length=n+1:=by rw [List.length_dropLast];omega
  have ha0:at_ t.dropLast 0=at_ t 0:=by
   rw [← ht];have:0<t.dropLast.length:=by omega
   simp only [at_,List.getD_eq_getElem?_getD,List.dropLast_concat];rw [List.getElem?_append_left this]
  have h1:=Sa n t.dropLast hdl (fun c hc=>hd c (List.dropLast_subset _ hc)) (.inr (by rw [ha0];omega));rw [ha0] at h1;have h2:=h1.2 omg;have h3:=hd _ (List.getLast_mem hne);unfold isDg at h3;have hv:valD t=valD t.dropLast * 10+((t.getLast hne).toNat - 48):=by
   conv=>lhs;rw [← ht]
   rw [Zl]
  refine ⟨?_,fun _=>by omega⟩;rw [Fv,if_neg omg];have e1:valD t / 10=valD t.dropLast:=by omega
  have e2:UInt8.ofNat (48+valD t % 10)=t.getLast hne:=by
   apply UInt8.toNat_inj.1;rw [Qj omg];omega
  rw [e1,e2,h1.1,ht]
theorem Pj:∀ (l:List UInt8) (a:Nat),(∀ c∈l,isDg c.toNat)→Lib.decFrom a l=some (l.foldl (fun a c=>a * 10+(c.toNat - 48)) a)
 | [],a,_=>rfl
 | c :: r,a,h=>by
  have hc:=h c List.mem_cons_self;unfold isDg at hc;rw [Lib.decFrom,Lib.digitVal,if_pos hc];exact Pj r _ fun d hd=>h d (List.mem_cons_of_mem _ hd)
theorem Jbw {t:List UInt8} (hne:t≠[]) (hl:t.length≤7) (hd:∀ c∈t,isDg c.toNat):Lib.atoiAll t=.ok (valD t:Int):=by
 rw [Lib.atoiAll_short t omg];cases t with
 | nil=>exact absurd rfl hne
 | cons c r =>
  have hc:=hd c List.mem_cons_self;unfold isDg at hc;have h45:¬ (c == 45)=true:=fun h=>by have:=beq_iff_eq.1 h;subst this;simp at hc
  have h43:¬ (c == 43)=true:=fun h=>by have:=beq_iff_eq.1 h;subst this;simp at hc
  rw [Lib.atoi,if_neg h45,if_neg h43,Lib.decNat,if_neg sm,Pj _ _ hd];rfl
theorem Jkf:∀ (T rest:List UInt8) (k:Nat),(∀ c∈T,isDg c.toNat)→T.length≤k→(∀ c q,rest=c :: q→¬ isDg c.toNat)→dgR k (T ++ rest)=T
 | [],rest,k,_,_,h=>by
  cases k with
  | zero=>rfl
  | succ k=>cases rest with
   | nil=>rfl
   | cons c q=>rw [List.nil_append,dgR,if_neg (h c q rfl)]
 | c :: T,rest,k,hd,hl,h=>by
  cases k with
  | zero=>simp at hl
  | succ k =>
   rw [List.cons_append,dgR,if_pos (hd c List.mem_cons_self),Jkf T rest k (fun d hm=>hd d (List.mem_cons_of_mem _ hm)) (by simp at hl;omega) h]
theorem eI_of {u:List UInt8} {e:Nat} (h:u[e]? = some 93) (hb:∀ j,j<e→u[j]? ≠ some 93):eI u=e:=by
 have hge:=Lib.indexByte_ge u ((93:Int).toNat.toUInt8);have hc:(93:Int).toNat.toUInt8=93:=rfl;by_cases hlt:eI u<0
 ·have:Lib.indexByte u ((93:Int).toNat.toUInt8) = -1:=by unfold eI at hlt;omega
  exact absurd h (Lib.indexByte_none this e)
 ·obtain ⟨o,ho⟩:∃ o:Nat,eI u=o:=⟨(eI u).toNat,by omega⟩
  obtain ⟨h1,h2⟩:=Lib.indexByte_some (show Lib.indexByte u ((93:Int).toNat.toUInt8)=o from ho);rw [hc] at h1 h2;rw [ho];rcases Nat.lt_trichotomy o e with hl | hl | hl
  ·exact absurd h1 (hb o hl)
  ·omega
  ·exact absurd h (h2 e hl)
theorem Jle {r:List UInt8} (h0:dgR 7 r≠[]) (h1:¬ (at_ r 0=48∧1<(dgR 7 r).length)) (h2:valD (dgR 7 r)≤1000000) (h3:r[(dgR 7 r).length]? = some 93) :
  Ce (91 :: r)=(⟨true,[],(valD (dgR 7 r):Nat)⟩,(dgR 7 r).length+2):=by
 have hl:=Jd2 7 r;have hp:=Jdy 7 r;have hall:=Jc6 7 r;generalize dgR 7 r=t at *
 have hlt:0<t.length:=List.length_pos_iff.2 h0;have he:eI (91 :: r)=((t.length+1:Nat):Int):=by
  refine eI_of (by simpa using h3) fun j hj hjs=>?_
  cases j with
  | zero=>simp at hjs
  | succ j =>
   rw [List.getElem?_cons_succ] at hjs;have hjt:t[j]? = some 93:=by rw [hp,List.getElem?_take_of_lt omg];exact hjs
   have:=hall 93 (List.mem_of_getElem? hjt);unfold isDg at this;simp at this
 have hT:pT (91 :: r)=t:=by
  unfold pT;rw [he,List.drop_succ_cons,List.drop_zero];rw [show ((t.length+1:Nat):Int).toNat - 1=t.length by omega];exact hp.symm
 have ha0:at_ t 0=at_ r 0:=by
  rw [hp];simp only [at_,List.getD_eq_getElem?_getD];rw [List.getElem?_take_of_lt omg]
 have hcan:=Sa (t.length - 1) t omg hall (by rw [ha0];omega);unfold Ce;rw [if_pos ⟨rfl,by omega,by omega⟩,hT,Jbw h0 hl.1 hall];simp only;rw [if_pos ⟨by omega,by omega,by rw [Lib.itoa_nonneg,hcan.1]⟩,he];rfl
theorem J18 {r:List UInt8} (h:(Ce (91 :: r)).2≠0):dgR 7 r≠[]∧¬ (at_ r 0=48∧1<(dgR 7 r).length)∧valD (dgR 7 r)≤1000000∧r[(dgR 7 r).length]? = some 93:=by
 unfold Ce at h;split at h
 case isFalse=>exact absurd rfl h
 rename_i hc;obtain ⟨-,hc1,hc2⟩:=hc;obtain ⟨e,he⟩:∃ e:Nat,eI (91 :: r)=e:=⟨(eI (91 :: r)).toNat,by omega⟩
 have hlt:=Jea he;have h93:=(Lib.indexByte_some (show Lib.indexByte (91 :: r) ((93:Int).toNat.toUInt8)=e from he)).1;rw [show (93:Int).toNat.toUInt8=93 from rfl] at h93;obtain ⟨k,rfl⟩:∃ k,e=k+1:=⟨e - 1,by omega⟩
 rw [List.getElem?_cons_succ] at h93;have hT:pT (91 :: r)=r.take k:=by
  unfold pT;rw [he,List.drop_succ_cons,List.drop_zero];rw [show ((k+1:Nat):Int).toNat - 1=k by omega]
 rw [hT] at h;split at h
 case h_2=>exact absurd rfl h
 rename_i n _;split at h
 case isFalse=>exact absurd rfl h
 rename_i hn;obtain ⟨hn0,hn1,hn2⟩:=hn;obtain ⟨m,rfl⟩:∃ m:Nat,n=m:=⟨n.toNat,by omega⟩
 rw [Lib.itoa_nonneg] at hn2;have hkl:k<r.length:=(List.getElem?_eq_some_iff.1 h93).1;have hlen:(Lib.decDigits m).length=k:=by rw [hn2,List.length_take];omega
 have hrun:dgR 7 r=Lib.decDigits m:=by
  have:=Jkf (Lib.decDigits m) (r.drop k) 7 (Jmj m) omg (fun c q hcq=>by
   rw [List.drop_eq_getElem_cons hkl] at hcq;cases hcq;have:=(List.getElem?_eq_some_iff.1 h93).2;rw [this];unfold isDg;simp)
  rw [hn2,List.take_append_drop] at this;rw [this,hn2]
 rw [hrun,hlen,Xc];refine ⟨U6 m,fun ⟨g1,g2⟩=>?_,by omega,h93⟩;cases hd:Lib.decDigits m with
 | nil=>exact U6 m hd
 | cons c q =>
  have hr0:at_ r 0=c.toNat:=by
   have:(r.take k)[0]? = some c:=by rw [← hn2,hd];rfl
   rw [List.getElem?_take_of_lt omg] at this;exact Juz this
  have:=(Jg0 m c q hd omg).1;subst this;rw [hd] at hlen;simp at hlen;omega
theorem Ju4 {u:List UInt8} (h:(Ce u).2=0):Ce u=(Dv,0):=by
 unfold Ce at h ⊢;by_cases c:u.take 1=[91]∧2≤eI u∧eI u≤8
 ·rw [if_pos c] at h ⊢;cases ha:Lib.atoiAll (pT u) with
  | ok n =>
   rw [ha] at h;simp only at h ⊢;by_cases d:0≤n∧n≤1000000∧Lib.itoa n=pT u
   ·rw [if_pos d] at h;cases h
   ·rw [if_neg d]
  | range=>rfl
  | _=>rfl
 ·rw [if_neg c]
def Jtc (s:List UInt8) (i:Nat):Step×Nat :=
 if i<s.length∧at_ s i=91 then
  if 0≤(figS s (i+1)).1∧(figS s (i+1)).2<s.length∧at_ s (figS s (i+1)).2=93 then (⟨true,[],(figS s (i+1)).1⟩,(figS s (i+1)).2+1 - i) else (Dv,0)
 else (Dv,0)
theorem J3t (s:List UInt8) (i:Nat):Jtc s i=Ce (s.drop i):=by
 unfold Jtc;by_cases hi:i<s.length∧at_ s i=91
 ·rw [if_pos hi];obtain ⟨hl,ha⟩:=hi;have hd:=List.drop_eq_getElem_cons hl;have h91:s[i]=91:=UInt8.toNat_inj.1 (by rw [← Juz (List.getElem?_eq_getElem hl),ha];rfl);rw [h91] at hd;rw [hd];have ha0:at_ (s.drop (i+1)) 0=at_ s (i+1):=Ko s (i+1) 0;have hr:(s.drop (i+1))[(dgR 7 (s.drop (i+1))).length]? = s[i+1+(dgR 7 (s.drop (i+1))).length]?:=List.getElem?_drop;have h93:∀ j,(j<s.length∧at_ s j=93) ↔ s[j]? = some 93:=fun j=>by
   constructor
   ·rintro ⟨h1,h2⟩;rw [List.getElem?_eq_getElem h1];congr 1;exact UInt8.toNat_inj.1 (by rw [← Juz (List.getElem?_eq_getElem h1),h2];rfl)
   ·intro h;exact ⟨(List.getElem?_eq_some_iff.1 h).1,Juz h⟩
  by_cases hf:dgR 7 (s.drop (i+1))≠[]∧¬ (at_ (s.drop (i+1)) 0=48∧1<(dgR 7 (s.drop (i+1))).length)∧valD (dgR 7 (s.drop (i+1)))≤1000000
  ·have hfl:(dgR 7 (s.drop (i+1))).length≠0:=fun h=>hf.1 (List.eq_nil_of_length_eq_zero h)
   have e:figS s (i+1)=(((valD (dgR 7 (s.drop (i+1))):Nat):Int),i+1+(dgR 7 (s.drop (i+1))).length):=by
    unfold figS;rw [if_neg];rintro (h | h | h)
    ·exact hfl h
    ·exact hf.2.1 (by rw [ha0];exact h)
    ·omega
   rw [e];simp only;by_cases hb:s[i+1+(dgR 7 (s.drop (i+1))).length]? = some 93
   ·rw [if_pos ⟨by omega,(h93 _).2 hb⟩,Jle hf.1 hf.2.1 hf.2.2 (by rw [hr];exact hb)];congr 1;omega
   ·rw [if_neg (fun h=>hb ((h93 _).1 h.2))];refine (Ju4 (Decidable.byContradiction fun h=>hb ?_)).symm;rw [← hr];exact (J18 h).2.2.2
  ·have e:figS s (i+1)=(-1,i+1):=by
    unfold figS;rw [if_pos];apply Decidable.byContradiction;intro h;refine hf ⟨fun h'=>h (.inl (by rw [h'];rfl)),fun h'=>h (.inr (.inl (by rw [← ha0];exact h'))),?_⟩;omega
   rw [e];rw [if_neg (fun h=>by have:=h.1;simp only at this;omega)];refine (Ju4 (Decidable.byContradiction fun h=>hf ?_)).symm;have:=J18 h;exact ⟨this.1,this.2.1,this.2.2.1⟩
 ·rw [if_neg hi];unfold Ce;rw [if_neg];rintro ⟨h,-⟩;have hl:i<s.length:=by
   apply Decidable.byContradiction;intro hn;rw [List.drop_eq_nil_of_le omg] at h;cases h
  rw [List.drop_eq_getElem_cons hl,List.take_succ_cons,List.take_zero] at h;have:s[i]=91:=by simpa using h
  exact hi ⟨hl,by rw [Juz (List.getElem?_eq_getElem hl),this];rfl⟩
end Go.LX
