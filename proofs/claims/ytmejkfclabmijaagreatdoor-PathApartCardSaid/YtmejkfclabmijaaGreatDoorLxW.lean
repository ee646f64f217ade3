/- Values, the document's answer: without a part, with one. -/
import Derived.Test.YtmejkfclabmijaaGreatDoorLxV
import Derived.Test.YtmejkfclabmijaaGreatDoorLxQ
import Derived.Test.YtmejkfclabmijaaGreatDoorLxU
import Derived.Test.YtmejkfclabmijaaGreatDoorLxP
import Derived.Test.YtmejkfclabmijaaGreatDoorLxO
set_option linter.unusedSimpArgs false
set_option linter.unusedVariables false
set_option linter.unusedSectionVars false
set_option linter.unnecessarySimpa false
set_option maxRecDepth 100000
set_option maxHeartbeats 2000000
namespace Go.LX
open Go Go.RowKit Go.Proofs
attribute [local irreducible] Al SWP Bi
theorem V1 (nm:List UInt8) (s:List UInt8) (g:Bool) (e:Int) (kids:Forest) (name:List UInt8) (hv:kids.enc.length≤900000):Det cx 104 [.p (.sl (valL ((Tree.mk 6 s g e kids).enc nm))),.p (.str name)] [] (.p (.sl (valL ((Tree.mk 6 [] false 0 (A1 (A8 name kids.list))).enc [])))) []:=by
 have hll:=Forest.len_le kids
 have hkl:=Forest.list_len kids
 skip
 (refine Al.of_code (X:=cx) false [] (by simp) Tryz.func104 (by kernel_rfl) rfl (by simp only [List.length_cons,List.length_nil,Tryz.ntmps104];decide) (by simp) ?_;refine Ae hm _ _ _ ?_;simp only [Tryz.ntmps104,Tryz.results104,go_sem,Nat.reduceLT,Nat.reduceLeDiff,Nat.reduceEqDiff,Nat.reduceAdd,Nat.reduceSub,Nat.reduceMul,Nat.reduceBEq,Int.reduceToNat,Int.reduceLT,Int.reduceLE,Int.reduceEq,Int.reduceAdd,Int.reduceSub,Int.reduceNeg,↓reduceIte,reduceCtorEq,A9])
 (repeat' (first | (refine iteI (fun h=>?_) (fun h=>?_))|(refine Ak (by first | omega | (simp (disch:=omega) only [Aa,Ab,Ac] at *;omega)) ?_;intro b hb)|(refine And.intro (by first | omega | (simp (disch:=omega) only [Aa,Ab,Ac] at *;omega)) ?_)|((first | (refine Ah hm (by rfl) (by kernel_rfl) ?_)|(refine Det.use (Ir nm s g e kids (by omega)) ?_)|(refine Det.useQ (Ir nm s g e kids (by omega)) ?_)|(refine Det.use (Dy nm 6 s g e kids (by omega)) ?_)|(refine Det.useQ (Dy nm 6 s g e kids (by omega)) ?_));simp only [go_sem,Nat.reduceLT,Nat.reduceLeDiff,Nat.reduceEqDiff,Nat.reduceMul,↓reduceIte,reduceCtorEq])|(exact True.intro)|(exfalso;omega)))
 refine SWP.of_le (B1 [(14,34),(15,41)] _ (by simp)) ?_
 simp only [go_sem,Nat.reduceEqDiff,↓reduceIte]
 refine SWP.loop (fun k:Nat=>⟨Ba 45 [(0,.p (.sl (valL ((Tree.mk 6 s g e kids).enc nm)))),(1,.p (.str name)),(5,.p (.sl (Bd kids.list))),(6,.p (.sl (A4 kids.list))),(7,.own 34 0 (A8 name (kids.list.take k)).length),(8,.own 41 0 (A8 name (kids.list.take k)).length),(9,.p (.int .i64 k))],[(41,.row 34 1 (A4 (A8 name (kids.list.take k)))),(34,.row 9 1 (Bd (A8 name (kids.list.take k))))]⟩) (fun k=>k≤kids.list.length) (fun k=>kids.list.length - k) 0 (by simp only [List.take_zero,A8,Jen,Jet,List.length_nil];exact (St.le_slots (by simp only [Ap,Ar,Ao,Aj,Af,Nat.reduceEqDiff,reduceIte,Nat.reduceLT,Nat.reduceLeDiff];simp (disch:=omega) [Af,Ai,Au,Aa] <;> (repeat' apply And.intro) <;> omega) (by simp (disch:=omega) [Az,A3,Aw,Am,Af,Ai,Au,Aa]) (by simp [Ay]))) (Nat.zero_le _) ?_
 intro k hk
 have hkk:=Rg name (kids.list.take k)
 rw [List.length_take] at hkk
 by_cases hlt:¬ k<kids.list.length
 ·have c1:((k:Int)<(kids.list.length:Int))=False:=eq_false (by omega)
  have tk:kids.list.take k=kids.list:=List.take_of_length_le (by omega)
  rw [tk]
  have tn:(Bd (A8 name kids.list)).take (A8 name kids.list).length=Bd (A8 name kids.list):=List.take_of_length_le (by rw [A9];omega)
  have tp:(A4 (A8 name kids.list)).take (A8 name kids.list).length=A4 (A8 name kids.list):=List.take_of_length_le (by rw [A5];omega)
  have ln:((A8 name kids.list).length≤(Bd (A8 name kids.list)).length)=True:=eq_true (by rw [A9];omega)
  have lp:((A8 name kids.list).length≤(A4 (A8 name kids.list)).length)=True:=eq_true (by rw [A5];omega)
  have ll:((A8 name kids.list).length≤(A8 name kids.list).length)=True:=eq_true (Nat.le_refl _)
  have hkle:=El name kids
  have hgn:=c1
  have hgp:=c1
  have hne:=c1
  have w1:=c1
  have e1:=c1
  have e2:=c1
  have e3:=c1
  skip
  (refine Ae hm _ _ _ ?_;simp only [go_sem,Nat.reduceLT,Nat.reduceEqDiff,↓reduceIte,reduceCtorEq,A9,c1,tn,tp,lp,ll])
  (repeat' (first | (refine iteI (fun h=>?_) (fun h=>?_))|(refine Ak (by first | omega | (simp (disch:=omega) only [Aa,Ab,Ac] at *;omega)) ?_;intro b hb)|(refine And.intro (by first | omega | (simp (disch:=omega) only [Aa,Ab,Ac] at *;omega)) ?_)|((first | (refine Ah hm (by rfl) (by kernel_rfl) ?_)|(refine Det.use (Iy (A8 name kids.list) (by omega)) ?_)|(refine Det.useQ (Iy (A8 name kids.list) (by omega)) ?_));simp only [go_sem,Nat.reduceLT,↓reduceIte])|(exact True.intro)|(exfalso;omega)))
 ·have hlt:=Decidable.not_not.1 hlt
  have c1:((k:Int)<(kids.list.length:Int))=True:=eq_true (by omega)
  obtain ⟨p,hp⟩:∃ p,kids.list[k]? = some p:=⟨_,List.getElem?_eq_getElem hlt⟩
  have hgn:(Bd kids.list)[k]? = some [.str p.1]:=by simp [Bd,hp]
  have hgp:(A4 kids.list)[k]? = some [.sl (valL (p.2.enc []))]:=by simp [A4,hp]
  have w1:=wi1 (i:=k) (by omega)
  have tn:=c1
  have tp:=c1
  have lp:=c1
  by_cases hn:p.1=name
  ·have hne:(p.1=name)=True:=eq_true hn
   have ln:=c1
   have ll:=c1
   have e1:=c1
   have e2:=c1
   have e3:=c1
   (refine Ae hm _ _ _ ?_;simp only [go_sem,Nat.reduceLT,Nat.reduceEqDiff,↓reduceIte,reduceCtorEq,A9,c1,hgn,hne,w1])
   (repeat' (first | (refine And.intro (by first | omega | (simp;done)|(simp;omega)) ?_)))
   refine ⟨k+1,hlt,by omega,?_⟩
   rw [Ld hp hn]
   exact (St.le_slots (by simp only [Ap,Ar,Ao,Aj,Af,Nat.reduceEqDiff,reduceIte,Nat.reduceLT,Nat.reduceLeDiff];simp (disch:=omega) [Af,Ai,Au,Aa] <;> (repeat' apply And.intro) <;> omega) (by simp (disch:=omega) [Az,A3,Aw,Am,Af,Ai,Au,Aa]) (by simp [Ay]))
  ·have hne:(p.1=name)=False:=eq_false hn
   have e1:(Bd (A8 name (kids.list.take k))).length=(A8 name (kids.list.take k)).length:=A9 _
   have e2:(A4 (A8 name (kids.list.take k))).length=(A8 name (kids.list.take k)).length:=A5 _
   have e3:=c1
   have ln:=c1
   have ll:=c1
   have t1:A4 (A8 name (kids.list.take (k+1)))=A4 (A8 name (kids.list.take k)) ++ [[.sl (valL (p.2.enc []))]]:=by rw [C8 hp hn,Tj];rfl
   have t2:Bd (A8 name (kids.list.take (k+1)))=Bd (A8 name (kids.list.take k)) ++ [[.str p.1]]:=by rw [C8 hp hn,T6];rfl
   have t3:(A8 name (kids.list.take (k+1))).length=(A8 name (kids.list.take k)).length+1:=by rw [C8 hp hn,List.length_append];rfl
   (refine Ae hm _ _ _ ?_;simp only [go_sem,Nat.reduceLT,Nat.reduceLeDiff,Nat.reduceEqDiff,Nat.reduceMul,↓reduceIte,reduceCtorEq,A9,c1,hgn,hgp,hne,w1,e1,e2])
   (repeat' (first | (refine And.intro (by first | omega | (simp;done)|(simp;omega)) ?_)))
   refine ⟨k+1,hlt,by omega,?_⟩
   rw [t1,t2,t3]
   exact (St.le_slots (by simp only [Ap,Ar,Ao,Aj,Af,Nat.reduceEqDiff,reduceIte,Nat.reduceLT,Nat.reduceLeDiff];simp (disch:=omega) [Af,Ai,Au,Aa] <;> (repeat' apply And.intro) <;> omega) (by simp (disch:=omega) [Az,A3,Aw,Am,Af,Ai,Au,Aa]) (by simp [Ay]))
theorem Tl (nm:List UInt8) (s:List UInt8) (g:Bool) (e:Int) (kids:Forest) (name:List UInt8) (t:Tree) (hv:kids.enc.length≤400000) (ht:(t.enc []).length≤400000) (hr:Rise (A8 name kids.list)) (hs:∀ p∈kids.list,p.1.length≤1000000) (hvs:∀ p∈kids.list,valid p.1=true) (hn:name.length≤1000000) (hvn:valid name=true):Det cx 45 [.p (.sl (valL ((Tree.mk 6 s g e kids).enc nm))),.p (.str name),.p (.sl (valL (t.enc [])))] [] (.p (.sl (valL ((Tree.mk 6 [] false 0 (A1 (putL name t (A8 name kids.list)))).enc [])))) []:=by
 have hw:=V1 nm s g e kids name (by omega)
 have hkl:=El name kids
 have hfl:=Forest.len_le (A1 (A8 name kids.list))
 rw [Ca] at hfl
 have hKm:∀ p∈A8 name kids.list,p∈kids.list∧p.1≠name:=fun p hp=>Om.1 hp
 generalize hK:A8 name kids.list=K at *
 have hp:=Qx [] 6 [] false 0 (A1 K) (by omega)
 have hnm:=Jau [] [] false 0 (A1 K) (by omega)
 rw [Hd,Ca] at hp hnm
 have e1:Bd K ++ [[PV.str name]]=Bd (K ++ [(name,t)]):=by simp [Bd]
 have e2:A4 K ++ [[PV.sl (valL (t.enc []))]]=A4 (K ++ [(name,t)]):=by simp [A4]
 have hio:Lp (K ++ [(name,t)])=putL name t K:=Jay hr fun p hp=>(hKm p hp).2
 have hok:M3 (K ++ [(name,t)])=true:=by
  unfold M3
  rw [decide_eq_true_eq]
  refine ⟨fun p hp=>?_,?_⟩
  ·rcases List.mem_append.1 hp with hp | hp
   ·exact hvs p (hKm p hp).1
   ·rw [List.mem_singleton] at hp;subst hp;exact hvn
  ·have:=(E3 (K ++ [(name,t)])).map (·.1)
   rw [hio] at this
   exact this.nodup_iff.1 (Kh hr fun p hp=>(hKm p hp).2).nodup
 have hO:=Zc (K ++ [(name,t)]) (by
  have:=Hm (E3 (K ++ [(name,t)]))
  rw [hio,Iv] at this
  omega) (fun p hp=>by
  rcases List.mem_append.1 hp with hp | hp
  ·exact hs p (hKm p hp).1
  ·rw [List.mem_singleton] at hp;subst hp;exact hn)
 unfold objR at hO
 rw [if_pos hok,hio] at hO
 have l1:(K.length+1≤(Bd (K ++ [(name,t)])).length)=True:=eq_true (by rw [A9];simp)
 have l2:(K.length+1≤(A4 (K ++ [(name,t)])).length)=True:=eq_true (by rw [A5];simp)
 have t1:(Bd (K ++ [(name,t)])).take (K.length+1)=Bd (K ++ [(name,t)]):=List.take_of_length_le (by rw [A9];simp)
 have t2:(A4 (K ++ [(name,t)])).take (K.length+1)=A4 (K ++ [(name,t)]):=List.take_of_length_le (by rw [A5];simp)
 have n1:(Bd K).length=K.length:=A9 _
 have n2:(A4 K).length=K.length:=A5 _
 skip
 (refine Al.of_code (X:=cx) false [] (by simp) Tryz.func45 (by kernel_rfl) rfl (by simp only [List.length_cons,List.length_nil,Tryz.ntmps45];decide) (by simp) ?_;refine Ae hm _ _ _ ?_;simp only [Tryz.ntmps45,Tryz.results45,go_sem,Nat.reduceLT,Nat.reduceLeDiff,Nat.reduceEqDiff,Nat.reduceAdd,Nat.reduceSub,Nat.reduceMul,Nat.reduceBEq,Int.reduceToNat,Int.reduceLT,Int.reduceLE,Int.reduceEq,Int.reduceAdd,Int.reduceSub,Int.reduceNeg,↓reduceIte,reduceCtorEq,l1,l2,t1,t2,e1,e2,n1,n2,if_true])
 (repeat' (first | (refine iteI (fun h=>?_) (fun h=>?_))|(refine Ak (by first | omega | (simp (disch:=omega) only [Aa,Ab,Ac] at *;omega)) ?_;intro b hb)|(refine And.intro (by first | omega | (simp (disch:=omega) only [Aa,Ab,Ac] at *;omega)) ?_)|((first | (refine Ah hm (by rfl) (by kernel_rfl) ?_)|(refine Det.use (hw) ?_)|(refine Det.useQ (hw) ?_)|(refine Ag.use (hw) ?_)|(refine Ad.use (hw) ?_)|(refine Det.use (hp) ?_)|(refine Det.useQ (hp) ?_)|(refine Ag.use (hp) ?_)|(refine Ad.use (hp) ?_)|(refine Det.use (hnm) ?_)|(refine Det.useQ (hnm) ?_)|(refine Ag.use (hnm) ?_)|(refine Ad.use (hnm) ?_)|(refine Det.use (hO) ?_)|(refine Det.useQ (hO) ?_)|(refine Ag.use (hO) ?_)|(refine Ad.use (hO) ?_));simp only [go_sem,Nat.reduceLT,Nat.reduceLeDiff,Nat.reduceEqDiff,Nat.reduceMul,↓reduceIte,reduceCtorEq,e1,n1])|(exact True.intro)|(exfalso;omega)))
 (repeat' (first | (refine And.intro (by first | omega | (simp;done)|(simp;omega)) ?_)))
 (repeat' (first | (refine iteI (fun h=>?_) (fun h=>?_))|(refine Ak (by first | omega | (simp (disch:=omega) only [Aa,Ab,Ac] at *;omega)) ?_;intro b hb)|(refine And.intro (by first | omega | (simp (disch:=omega) only [Aa,Ab,Ac] at *;omega)) ?_)|((first | (refine Ah hm (by rfl) (by kernel_rfl) ?_)|(refine Det.use (hw) ?_)|(refine Det.useQ (hw) ?_)|(refine Ag.use (hw) ?_)|(refine Ad.use (hw) ?_)|(refine Det.use (hp) ?_)|(refine Det.useQ (hp) ?_)|(refine Ag.use (hp) ?_)|(refine Ad.use (hp) ?_)|(refine Det.use (hnm) ?_)|(refine Det.useQ (hnm) ?_)|(refine Ag.use (hnm) ?_)|(refine Ad.use (hnm) ?_)|(refine Det.use (hO) ?_)|(refine Det.useQ (hO) ?_)|(refine Ag.use (hO) ?_)|(refine Ad.use (hO) ?_));simp only [go_sem,Nat.reduceLT,Nat.reduceLeDiff,Nat.reduceEqDiff,Nat.reduceMul,↓reduceIte,reduceCtorEq,l1,l2,t1,t2,e2,n2])|(exact True.intro)|(exfalso;omega)))
 (repeat' (first | (refine And.intro (by first | omega | (simp;done)|(simp;omega)) ?_)))
 (repeat' (first | (refine iteI (fun h=>?_) (fun h=>?_))|(refine Ak (by first | omega | (simp (disch:=omega) only [Aa,Ab,Ac] at *;omega)) ?_;intro b hb)|(refine And.intro (by first | omega | (simp (disch:=omega) only [Aa,Ab,Ac] at *;omega)) ?_)|((first | (refine Ah hm (by rfl) (by kernel_rfl) ?_)|(refine Det.use (hw) ?_)|(refine Det.useQ (hw) ?_)|(refine Ag.use (hw) ?_)|(refine Ad.use (hw) ?_)|(refine Det.use (hp) ?_)|(refine Det.useQ (hp) ?_)|(refine Ag.use (hp) ?_)|(refine Ad.use (hp) ?_)|(refine Det.use (hnm) ?_)|(refine Det.useQ (hnm) ?_)|(refine Ag.use (hnm) ?_)|(refine Ad.use (hnm) ?_)|(refine Det.use (hO) ?_)|(refine Det.useQ (hO) ?_)|(refine Ag.use (hO) ?_)|(refine Ad.use (hO) ?_));simp only [go_sem,Nat.reduceLT,Nat.reduceEqDiff,↓reduceIte])|(exact True.intro)|(exfalso;omega)))
end Go.LX
namespace Go.LX
open Go
def Ja8 (c:UInt8):Bool:=decide (48≤c.toNat) && decide (c.toNat≤57)
def Pk (s:List UInt8):Bool:=s.all Ja8
def Yz (s:List UInt8) (g:Bool) (e:Int):Prop :=
 Pk s=true∧s.length≤100∧-1000≤e∧e≤1000∧(s.length:Int)+e≤1000∧(if s=[] then g=false∧e=0 else at_ s 0≠48∧at_ s (s.length - 1)≠48)
instance (s:List UInt8) (g:Bool) (e:Int):Decidable (Yz s g e):=by unfold Yz;infer_instance
def G3 (k:Int) (s:List UInt8) (g:Bool) (e:Int) (m:Int):Prop :=
 if k=0∨k=1∨k=2 then m=0∧s=[]∧g=false∧e=0 else if k=3 then m=0∧Yz s g e else if k=4 then valid s=true∧m=0∧g=false∧e=0 else if k=5∨k=6 then 0≤m∧s=[]∧g=false∧e=0 else False
instance (k:Int) (s:List UInt8) (g:Bool) (e m:Int):Decidable (G3 k s g e m):=by unfold G3;infer_instance
def Eh (k:Int) (l:List KT):Prop:=(k=5→∀ p∈l,p.1=[])∧(∀ p∈l,valid p.1=true)∧(k=6→Rise l)
mutual
def okT:Tree→Prop
 | .mk k s g e kids=>G3 k s g e kids.len∧Eh k kids.list∧okF kids
def okF:Forest→Prop
 | .nil=>True
 | .cons _ t r=>okT t∧okF r
end
theorem Lu {k:Int} {s:List UInt8} {g:Bool} {e:Int} {kids:Forest}:okT (.mk k s g e kids) ↔ G3 k s g e kids.len∧Eh k kids.list∧okF kids:=by rw [okT]
theorem Fs {nm:List UInt8} {t:Tree} {r:Forest}:okF (.cons nm t r) ↔ okT t∧okF r:=by rw [okF]
theorem I6:okF .nil:=by rw [okF];trivial
theorem Jdq:∀ {a b:Forest},okF (a.app b) ↔ okF a∧okF b
 | .nil,b=>by simp [Forest.app,I6]
 | .cons nm t r,b=>by rw [Forest.app,Fs,Fs,Jdq (a:=r)];exact and_assoc.symm
theorem Jjp {nm:List UInt8} {k:Int} {s:List UInt8} {g:Bool} {e:Int} {kids r:Forest}:okF (.cons nm (.mk k s g e kids) r) ↔ G3 k s g e kids.len∧Eh k kids.list∧okF (kids.app r):=by
 rw [Fs,Lu,Jdq]
 constructor
 ·rintro ⟨⟨h1,h2,h3⟩,h4⟩;exact ⟨h1,h2,h3,h4⟩
 ·rintro ⟨h1,h2,h3,h4⟩;exact ⟨⟨h1,h2,h3⟩,h4⟩
theorem Jdo:∀ {f:Forest},okF f ↔ ∀ p∈f.list,okT p.2
 | .nil=>by simp [Forest.list,I6]
 | .cons nm t r=>by rw [Fs,Jdo (f:=r),Forest.list,List.forall_mem_cons]
theorem Sb (k:Int):Eh k []:=⟨by simp,by simp,fun _=>.nil⟩
theorem Jaa {k:Int} {p:KT} {l:List KT}:Eh k (p :: l) ↔ (k=5→p.1=[])∧valid p.1=true∧(k=6→∀ q,l.head? = some q→Op.bytesLess p.1 q.1=true)∧Eh k l:=by
 unfold Eh
 constructor
 ·rintro ⟨h1,h2,h3⟩
  refine ⟨fun hk=>h1 hk p List.mem_cons_self,h2 p List.mem_cons_self,fun hk q hq=>?_,fun hk q hq=>h1 hk q (List.mem_cons_of_mem _ hq),fun q hq=>h2 q (List.mem_cons_of_mem _ hq),fun hk=>(h3 hk).tail⟩
  exact (List.pairwise_cons.1 (h3 hk)).1 q (List.mem_of_head? hq)
 ·rintro ⟨h1,h2,h3,h4,h5,h6⟩
  refine ⟨fun hk q hq=>?_,fun q hq=>?_,fun hk=>List.pairwise_cons.2 ⟨fun q hq=>?_,h6 hk⟩⟩
  ·rcases List.mem_cons.1 hq with rfl | hq
   ·exact h1 hk
   ·exact h4 hk q hq
  ·rcases List.mem_cons.1 hq with rfl | hq
   ·exact h2
   ·exact h5 q hq
  ·cases l with
   | nil=>cases hq
   | cons r l =>
    have h7:=h3 hk r rfl
    rcases List.mem_cons.1 hq with rfl | hq
    ·exact h7
    ·exact H8 h7 ((List.pairwise_cons.1 (h6 hk)).1 q hq)
def nxt (L:Nat):List Node→Nat→Option Nat
 | _,0=>some 0
 | [],_+1=>none
 | n :: r,o+1=>if n.many<0∨(L:Int)<n.many then none else (nxt L r (o+n.many.toNat)).map (· + 1)
theorem Forest.split:∀ (m:Nat) (F:Forest),m≤F.len→∃ A B:Forest,F=A.app B∧A.len=m
 | 0,F,_=>⟨.nil,F,rfl,rfl⟩
 | m+1,.nil,h=>by simp [Forest.len] at h
 | m+1,.cons nm t r,h=>by
  obtain ⟨A,B,h1,h2⟩:=Forest.split m r (by simp only [Forest.len] at h;omega)
  exact ⟨.cons nm t A,B,by rw [Forest.app,← h1],by simp only [Forest.len,h2]⟩
theorem Qg {L:Nat}:∀ {v:List Node} {o k:Nat},nxt L v o=some k→∃ F:Forest,F.len=o∧v=F.enc ++ v.drop k∧F.enc.length=k
 | v,0,k,h=>by
  simp [nxt] at h;subst h
  exact ⟨.nil,rfl,by simp [Bl],by simp [Bl]⟩
 | [],o+1,k,h=>by simp [nxt] at h
 | n :: r,o+1,k,h=>by
  simp only [nxt] at h
  split at h
  ·cases h
  ·rename_i hn
   obtain ⟨k',h',rfl⟩:=Option.map_eq_some_iff.1 h
   obtain ⟨F,h1,h2,h3⟩:=Qg h'
   obtain ⟨A,B,rfl,hA⟩:=Forest.split n.many.toNat F (by omega)
   rw [Forest.len_app] at h1
   rw [Forest.enc_app] at h2 h3
   refine ⟨.cons n.name (.mk n.kind n.s n.neg n.e A) B,by simp only [Forest.len];omega,?_,?_⟩
   ·rw [A0,A6,List.drop_succ_cons]
    have e:(⟨n.kind,A.len,n.name,n.s,n.neg,n.e⟩:Node)=n:=by
     have:(A.len:Int)=n.many:=by omega
     rw [this]
    rw [e]
    simp only [List.cons_append,List.append_assoc]
    congr 1
    rw [← List.append_assoc];exact h2
   ·rw [A0,A6,List.length_append,List.length_cons]
    rw [List.length_append] at h3;omega
theorem Q3 {L:Nat}:∀ (n:Nat) (F:Forest) (r:List Node),F.enc.length≤n→F.enc.length≤L→nxt L (F.enc ++ r) F.len=some F.enc.length
 | _,.nil,r,_,_=>by simp [Forest.len,nxt,Bl]
 | 0,.cons nm t rest,r,h,_=>by
  have:=Et t nm
  rw [A0,List.length_append] at h;omega
 | n+1,.cons nm (.mk k s g e kids) rest,r,h,hL=>by
  rw [A0,A6,List.length_append,List.length_cons] at h hL
  have hk:=Forest.len_le kids
  have ih:=Q3 (L:=L) n (kids.app rest) r (by rw [Forest.enc_app,List.length_append];omega) (by rw [Forest.enc_app,List.length_append];omega)
  rw [Forest.enc_app,Forest.len_app,List.append_assoc,List.length_append] at ih
  simp only [A0,A6,List.cons_append,List.append_assoc,Forest.len,nxt]
  rw [if_neg (by omega)]
  simp only [Int.toNat_natCast]
  rw [Nat.add_comm rest.len,ih]
  simp only [Option.map_some,List.length_cons,List.length_append]
theorem Jcx {v:List Node}:nxt v.length v 1=some v.length ↔ ∃ nm t,v=Tree.enc nm t:=by
 constructor
 ·intro h
  obtain ⟨F,h1,h2,h3⟩:=Qg h
  rw [List.drop_length,List.append_nil] at h2
  match F,h1,h2 with
  | .cons nm t .nil,_,h2=>exact ⟨nm,t,by rw [h2,A0,Bl,List.append_nil]⟩
 ·rintro ⟨nm,t,rfl⟩
  have:=Q3 (L:=(t.enc nm).length) (t.enc nm).length (.cons nm t .nil) [] (by rw [A0,Bl];simp) (by rw [A0,Bl];simp)
  simpa [A0,Bl,Forest.len] using this
def R0 (v:List Node):Prop:=∃ t,okT t∧v=t.enc []
open Classical in
noncomputable def Jw (v:List Node):Bool:=decide (R0 v)
theorem Iq {v:List Node}:Jw v=true ↔ R0 v:=by unfold Jw;exact @decide_eq_true_iff _ (Classical.propDecidable _)
end Go.LX
set_option maxRecDepth 100000
set_option maxHeartbeats 2000000
namespace Go.LX
open Go Go.RowKit Go.Proofs
attribute [local irreducible] Al SWP Bi
def nd (k:Int) (l:List KT):Tree:=.mk k [] false 0 (A1 l)
theorem Ea (l:List KT):(A1 l).list=l:=Hd l
theorem Jdh {k:Int} {l:List KT}:okT (nd k l) ↔ G3 k [] false 0 l.length∧Eh k l∧∀ p∈l,okT p.2:=by
 unfold nd
 rw [Lu,Jdo,Ea,Ca]
def Ck (name:List UInt8) (t:Tree) (l:List KT):List KT:=l.map fun p=>if p.1=name then (name,t) else p
theorem Jhx (name:List UInt8) (t:Tree) (l:List KT):(Ck name t l).map (·.1)=l.map (·.1):=by
 unfold Ck
 rw [List.map_map]
 apply List.map_congr_left
 intro p _
 simp only [Function.comp]
 split <;> simp_all
theorem Jkq {l m:List KT} (h:l.map (·.1)=m.map (·.1)):Rise l ↔ Rise m:=by
 have e:∀ l:List KT,Rise l ↔ (l.map (·.1)).Pairwise fun a b=>Op.bytesLess a b=true:=fun l=>by unfold Rise;rw [List.pairwise_map]
 rw [e,e,h]
theorem Ii {name:List UInt8} {t:Tree} {l:List KT} (h:Rise l):Rise (Ck name t l):=(Jkq (Jhx name t l)).2 h
theorem Mh {name:List UInt8} {t:Tree}:∀ {l:List KT},(∀ p∈l,p.1≠name)→Ck name t l=l
 | [],_=>rfl
 | p :: l,h=>by
  have:=Mh (t:=t) fun q hq=>h q (List.mem_cons_of_mem p hq)
  unfold Ck at this ⊢
  rw [List.map_cons,if_neg (h p List.mem_cons_self),this]
theorem Y2 {name:List UInt8}:∀ {l:List KT},(∀ p∈l,p.1≠name)→A8 name l=l
 | [],_=>rfl
 | p :: l,h=>by rw [A8,if_neg (h p List.mem_cons_self),Y2 fun q hq=>h q (List.mem_cons_of_mem p hq)]
theorem Zx {name:List UInt8} {y:Tree}:∀ {l:List KT},Rise l→(∃ p∈l,p.1=name)→putL name y (A8 name l)=Ck name y l
 | [],_,h=>by obtain ⟨p,hp,_⟩:=h;cases hp
 | p :: l,hr,h=>by
  obtain ⟨h1,h2⟩:=List.pairwise_cons.1 hr
  by_cases hp:p.1=name
  ·have hno:∀ q∈l,q.1≠name:=fun q hq e=>by
    have:=h1 q hq;rw [hp,e,E0] at this;cases this
   rw [A8,if_pos hp,Y2 hno]
   unfold Ck
   rw [List.map_cons,if_pos hp]
   have:=Mh (t:=y) hno
   unfold Ck at this
   rw [this]
   cases l with
   | nil=>rfl
   | cons q l =>
    have:=h1 q List.mem_cons_self
    rw [hp] at this
    rw [putL,if_neg (by rw [L3 this];simp)]
  ·obtain ⟨q,hq,hqn⟩:=h
   have hq':q∈l:=by
    rcases List.mem_cons.1 hq with rfl | hq
    ·exact absurd hqn hp
    ·exact hq
   have hlt:=h1 q hq'
   rw [hqn] at hlt
   rw [A8,if_neg hp,putL,if_pos hlt,Zx h2 ⟨q,hq',hqn⟩]
   unfold Ck
   rw [List.map_cons,if_neg hp]
theorem Lf {name:List UInt8} {y:Tree}:∀ {l:List KT},(∃ p∈l,p.1=name)→Ch name (Ck name y l)=some y
 | [],h=>by obtain ⟨p,hp,_⟩:=h;cases hp
 | p :: l,h=>by
  unfold Ck
  rw [List.map_cons]
  by_cases hp:p.1=name
  ·rw [if_pos hp,Ch,if_pos rfl]
  ·rw [if_neg hp,Ch,if_neg hp]
   obtain ⟨q,hq,hqn⟩:=h
   refine Lf ⟨q,?_,hqn⟩
   rcases List.mem_cons.1 hq with rfl | hq
   ·exact absurd hqn hp
   ·exact hq
theorem G8 {name n':List UInt8} {y:Tree} (hn:n'≠name):∀ {l:List KT},Ch n' (Ck name y l)=Ch n' l
 | []=>rfl
 | p :: l=>by
  have ih:=G8 hn (y:=y) (l:=l)
  unfold Ck at ih ⊢
  rw [List.map_cons]
  by_cases hp:p.1=name
  ·rw [if_pos hp,Ch,if_neg (by simp only;exact fun e=>hn e.symm),Ch,if_neg (by rw [hp];exact fun e=>hn e.symm),ih]
  ·rw [if_neg hp,Ch,Ch,ih]
theorem Xa (name:List UInt8) (y z:Tree) (l:List KT):Ck name z (Ck name y l)=Ck name z l:=by
 unfold Ck
 rw [List.map_map]
 apply List.map_congr_left
 intro p _
 simp only [Function.comp]
 by_cases h:p.1=name <;> simp [h]
theorem Jbr {a b:List UInt8} (h:a≠b) (y z:Tree) (l:List KT):Ck a y (Ck b z l)=Ck b z (Ck a y l):=by
 unfold Ck
 rw [List.map_map,List.map_map]
 apply List.map_congr_left
 intro p _
 simp only [Function.comp]
 by_cases h1:p.1=a
 ·have h2:¬ p.1=b:=fun e=>h (h1.symm.trans e)
  simp [h1,h,h2]
 ·by_cases h2:p.1=b
  ·simp [h2,Ne.symm h]
  ·simp [h1,h2]
theorem Qw {name:List UInt8} {w:Tree}:∀ {l:List KT},Rise l→Ch name l=some w→Ck name w l=l
 | [],_,h=>by cases h
 | p :: l,hr,h=>by
  obtain ⟨h1,h2⟩:=List.pairwise_cons.1 hr
  rw [Ch] at h
  by_cases hp:p.1=name
  ·rw [if_pos hp] at h
   have hno:∀ q∈l,q.1≠name:=fun q hq e=>by
    have:=h1 q hq;rw [hp,e,E0] at this;cases this
   have e:=Mh (t:=w) hno
   unfold Ck at e ⊢
   rw [List.map_cons,if_pos hp,e]
   cases h
   obtain ⟨a,b⟩:=p
   simp only at hp;subst hp;rfl
  ·rw [if_neg hp] at h
   have e:=Qw h2 h
   unfold Ck at e ⊢
   rw [List.map_cons,if_neg hp,e]
theorem Jip {name:List UInt8} {y:Tree} {l:List KT} (h:∀ p∈l,okT p.2) (hy:okT y):∀ p∈Ck name y l,okT p.2:=by
 intro p hp
 obtain ⟨q,hq,rfl⟩:=List.mem_map.1 hp
 split
 ·exact hy
 ·exact h q hq
theorem Jct {name:List UInt8} {y:Tree} {l:List KT} (h:Eh 6 l):Eh 6 (Ck name y l):=by
 obtain ⟨_,h2,h3⟩:=h
 refine ⟨by simp,fun p hp=>?_,fun _=>Ii (h3 rfl)⟩
 obtain ⟨q,hq,rfl⟩:=List.mem_map.1 hp
 split
 ·rename_i e;simp only;rw [← e];exact h2 q hq
 ·exact h2 q hq
theorem Jdu {name:List UInt8} {y w:Tree}:∀ {l:List KT},Rise l→Ch name l=some w→(A1 (Ck name y l)).enc.length+(w.enc []).length=(A1 l).enc.length+(y.enc []).length
 | [],_,h=>by cases h
 | p :: l,hr,h=>by
  obtain ⟨h1,h2⟩:=List.pairwise_cons.1 hr
  rw [Ch] at h
  by_cases hp:p.1=name
  ·rw [if_pos hp] at h
   cases h
   have hno:∀ q∈l,q.1≠name:=fun q hq e=>by
    have:=h1 q hq;rw [hp,e,E0] at this;cases this
   have e:=Mh (t:=y) hno
   have e2:Ck name y (p :: l)=(name,y) :: l:=by
    unfold Ck at e ⊢
    rw [List.map_cons,if_pos hp,e]
   rw [e2]
   simp only [A1,A0,List.length_append,G7 _ name,G7 _ p.1];omega
  ·rw [if_neg hp] at h
   have ih:=Jdu (y:=y) h2 h
   have e2:Ck name y (p :: l)=p :: Ck name y l:=by
    unfold Ck
    rw [List.map_cons,if_neg hp]
   rw [e2]
   simp only [A1,A0,List.length_append];omega
theorem Jcy {y w:Tree} {nm:List UInt8}:∀ {l:List KT} {i:Nat},l[i]? = some (nm,w)→(A1 (l.set i (nm,y))).enc.length+(w.enc []).length=(A1 l).enc.length+(y.enc []).length
 | [],i,h=>by simp at h
 | p :: l,0,h=>by
  simp at h;subst h
  simp only [List.set_cons_zero,A1,A0,List.length_append,G7 _ nm];omega
 | p :: l,i+1,h=>by
  have:=Jcy (y:=y) (l:=l) (i:=i) (by simpa using h)
  simp only [List.set_cons_succ,A1,A0,List.length_append];omega
def putT:Tree→Step→Tree→Tree
 | .mk _ _ _ _ kids,x,y=>if x.part=true then nd 5 (unn (kids.list.set x.n.toNat ([],y))) else nd 6 (putL x.name y (A8 x.name kids.list))
inductive Way (t:Tree) (x:Step) (w:Tree):Prop
 | list (l:List KT) (h:t=nd 5 l) (hp:x.part=true) (hn:∀ p∈l,p.1=[]) (hi:l[x.n.toNat]? = some ([],w))
 | obj (l:List KT) (h:t=nd 6 l) (hp:x.part=false) (hr:Rise l) (hi:Ch x.name l=some w)
theorem Jl3:∀ {l:List KT},(∀ p∈l,p.1=[])→unn l=l
 | [],_=>rfl
 | p :: l,h=>by
  have:=Jl3 fun q hq=>h q (List.mem_cons_of_mem p hq)
  unfold unn at this ⊢
  rw [List.map_cons,this,← h p List.mem_cons_self]
theorem Jv {t:Tree} {x:Step} {w:Tree} (ht:okT t) (h:inT t x=.ok w):Way t x w:=by
 cases t with
 | mk k s g e kids =>
 rw [Lu] at ht
 obtain ⟨h1,h2,h3⟩:=ht
 unfold G3 at h1
 cases hp:x.part
 ·by_cases hk:k=6
  ·subst hk
   simp at h1
   obtain ⟨rfl,rfl,rfl⟩:=h1
   rw [Tp hp] at h
   cases hf:Ch x.name kids.list with
   | none=>rw [hf] at h;cases h
   | some u =>
    rw [hf] at h;cases h
    exact .obj kids.list (by unfold nd;rw [G1]) hp (h2.2.2 rfl) hf
  ·rw [Iw hp hk] at h;cases h
 ·by_cases hk:k=5
  ·subst hk
   simp at h1
   obtain ⟨rfl,rfl,rfl⟩:=h1
   rw [Tm hp] at h
   cases hf:kids.list[x.n.toNat]? with
   | none=>rw [hf] at h;cases h
   | some q =>
    rw [hf] at h;cases h
    have hq:=h2.1 rfl q (List.mem_of_getElem? hf)
    refine .list kids.list (by unfold nd;rw [G1]) hp (h2.1 rfl) ?_
    rw [hf];obtain ⟨a,b⟩:=q;simp only at hq;subst hq;rfl
  ·rw [Iz hp hk] at h;cases h
theorem Va {l:List KT} {x:Step} (hp:x.part=true):inT (nd 5 l) x=match l[x.n.toNat]? with
   | some p=>.ok p.2
   | none=>.error 6:=by unfold nd;rw [Tm hp,Ea];rfl
theorem Vv {l:List KT} {x:Step} (hp:x.part=false):inT (nd 6 l) x=match Ch x.name l with
   | some t=>.ok t
   | none=>.error 6:=by unfold nd;rw [Tp hp,Ea];rfl
theorem Gf {l:List KT} {i:Nat} {y:Tree} (h:∀ p∈l,p.1=[]):∀ p∈l.set i ([],y),p.1=[]:=by
 intro p hp
 rcases List.mem_or_eq_of_mem_set hp with hp | rfl
 ·exact h p hp
 ·rfl
theorem Cr {l:List KT} {x:Step} {y:Tree} (hp:x.part=true) (hn:∀ p∈l,p.1=[]):putT (nd 5 l) x y=nd 5 (l.set x.n.toNat ([],y)):=by
 show (if x.part=true then nd 5 (unn ((A1 l).list.set x.n.toNat ([],y))) else _)=_
 rw [if_pos hp,Ea,Jl3 (Gf hn)]
theorem C7 {l:List KT} {x:Step} {y w:Tree} (hp:x.part=false) (hr:Rise l) (hi:Ch x.name l=some w):putT (nd 6 l) x y=nd 6 (Ck x.name y l):=by
 show (if x.part=true then _ else nd 6 (putL x.name y (A8 x.name (A1 l).list)))=_
 rw [if_neg (by simp [hp]),Ea,Zx hr]
 obtain ⟨p,h1,_,h2⟩:=H2 hi
 exact ⟨p,h1,h2⟩
theorem Qq {name:List UInt8} {l:List KT} {w:Tree} (h:Ch name l=some w):∃ p∈l,p.1=name:=by
 obtain ⟨p,h1,_,h2⟩:=H2 h
 exact ⟨p,h1,h2⟩
theorem L7 {t:Tree} {x:Step} {w y:Tree} (h:Way t x w):inT (putT t x y) x=.ok y:=by
 cases h with
 | list l h hp hn hi =>
  subst h
  rw [Cr hp hn,Va hp,List.getElem?_set_self (List.getElem?_eq_some_iff.1 hi).1]
 | obj l h hp hr hi =>
  subst h
  rw [C7 hp hr hi,Vv hp,Lf (Qq hi)]
theorem Np {t:Tree} {x x':Step} {w y:Tree} (h:Way t x w) (hx:Bc x) (hx':Bc x') (hne:x≠x'):inT (putT t x y) x'=inT t x':=by
 unfold Bc at hx hx'
 cases h with
 | list l h hp hn hi =>
  subst h
  rw [if_pos hp] at hx
  rw [Cr hp hn]
  cases hp':x'.part
  ·unfold nd;rw [Iw hp' (by decide),Iw hp' (by decide)]
  ·rw [if_pos hp'] at hx'
   have hnn:x.n.toNat≠x'.n.toNat:=fun e=>hne (by
    cases x;cases x';simp_all;omega)
   rw [Va hp',Va hp',List.getElem?_set_ne hnn]
 | obj l h hp hr hi =>
  subst h
  rw [if_neg (by simp [hp])] at hx
  rw [C7 hp hr hi]
  cases hp':x'.part
  ·rw [if_neg (by simp [hp'])] at hx'
   have hnn:x'.name≠x.name:=fun e=>hne (by
    cases x;cases x';simp_all)
   rw [Vv hp',Vv hp',G8 hnn]
  ·unfold nd;rw [Iz hp' (by decide),Iz hp' (by decide)]
theorem Jjf {t:Tree} {x:Step} {w:Tree} (h:Way t x w):putT t x w=t:=by
 cases h with
 | list l h hp hn hi =>
  subst h
  rw [Cr hp hn]
  congr 1
  apply List.ext_getElem?
  intro i
  rw [List.getElem?_set]
  split
  ·subst_vars
   first
    | (split <;> simp_all)
    | simp_all
  ·rfl
 | obj l h hp hr hi =>
  subst h
  rw [C7 hp hr hi,Qw hr hi]
theorem Ot {t:Tree} {x:Step} {w y z:Tree} (h:Way t x w):putT (putT t x y) x z=putT t x z:=by
 cases h with
 | list l h hp hn hi =>
  subst h
  rw [Cr hp hn,Cr hp (Gf hn),Cr hp hn,List.set_set]
 | obj l h hp hr hi =>
  subst h
  rw [C7 hp hr hi,C7 hp (Ii hr) (Lf (Qq hi)),C7 hp hr hi,Xa]
theorem put_comm {t:Tree} {x x':Step} {w w' y y':Tree} (h:Way t x w) (h':Way t x' w') (hx:Bc x) (hx':Bc x') (hne:x≠x'):putT (putT t x y) x' y'=putT (putT t x' y') x y:=by
 unfold Bc at hx hx'
 cases h with
 | list l h hp hn hi =>
  subst h
  cases h' with
  | list l' h' hp' hn' hi' =>
   rw [if_pos hp] at hx
   rw [if_pos hp'] at hx'
   have hnn:x.n.toNat≠x'.n.toNat:=fun e=>hne (by
    cases x;cases x';simp_all;omega)
   rw [Cr hp hn,Cr hp' (Gf hn),Cr hp' hn,Cr hp (Gf hn),List.set_comm _ _ hnn]
  | obj l' h' hp' hr' hi'=>unfold nd at h';cases h'
 | obj l h hp hr hi =>
  subst h
  cases h' with
  | list l' h' hp' hn' hi'=>unfold nd at h';cases h'
  | obj l' h' hp' hr' hi' =>
   have e:l=l':=by
    unfold nd at h'
    injection h' with _ _ _ _ h5
    have:=congrArg Forest.list h5
    rw [Ea,Ea] at this;exact this
   subst e
   rw [if_neg (by simp [hp])] at hx
   rw [if_neg (by simp [hp'])] at hx'
   have hnn:x'.name≠x.name:=fun e=>hne (by
    cases x;cases x';simp_all)
   rw [C7 hp hr hi,C7 hp' (Ii hr) (by rw [G8 hnn];exact hi'),C7 hp' hr hi',C7 hp (Ii hr) (by rw [G8 (Ne.symm hnn)];exact hi),Jbr hnn]
theorem put_ok {t:Tree} {x:Step} {w y:Tree} (ht:okT t) (h:Way t x w) (hy:okT y):okT (putT t x y):=by
 cases h with
 | list l h hp hn hi =>
  subst h
  rw [Cr hp hn]
  rw [Jdh] at ht ⊢
  obtain ⟨h1,h2,h3⟩:=ht
  refine ⟨by rw [List.length_set];exact h1,⟨fun _=>Gf hn,fun p hp'=>?_,by simp⟩,fun p hp'=>?_⟩
  ·rw [Gf hn p hp'];rfl
  ·rcases List.mem_or_eq_of_mem_set hp' with hp' | rfl
   ·exact h3 p hp'
   ·exact hy
 | obj l h hp hr hi =>
  subst h
  rw [C7 hp hr hi]
  rw [Jdh] at ht ⊢
  obtain ⟨h1,h2,h3⟩:=ht
  exact ⟨by unfold Ck;rw [List.length_map];exact h1,Jct h2,Jip h3 hy⟩
theorem Ig {t:Tree} {x:Step} {w:Tree} (ht:okT t) (h:Way t x w):okT w:=by
 cases h with
 | list l h hp hn hi=>subst h;exact (Jdh.1 ht).2.2 _ (List.mem_of_getElem? hi)
 | obj l h hp hr hi =>
  subst h
  obtain ⟨p,h1,h2,_⟩:=H2 hi
  rw [← h2];exact (Jdh.1 ht).2.2 p h1
theorem Wn (k:Int) (l:List KT):((nd k l).enc []).length=(A1 l).enc.length+1:=by unfold nd;rw [A6];rfl
theorem Jot {t:Tree} {x:Step} {w y:Tree} (h:Way t x w):((putT t x y).enc []).length+(w.enc []).length=(t.enc []).length+(y.enc []).length:=by
 cases h with
 | list l h hp hn hi =>
  subst h
  rw [Cr hp hn,Wn,Wn]
  have:=Jcy (y:=y) hi
  omega
 | obj l h hp hr hi =>
  subst h
  rw [C7 hp hr hi,Wn,Wn]
  have:=Jdu (y:=y) hr hi
  omega
def setT:List Step→Tree→Tree→Except Nat Tree
 | [],_,u=>.ok u
 | x :: p,t,u=>match inT t x with
  | .error e=>.error e
  | .ok w=>match setT p w u with
   | .error e=>.error e
   | .ok y=>.ok (putT t x y)
theorem Km:∀ {p:List Step} {t u:Tree} {e:Nat},setT p t u=.error e ↔ getT p t=.error e
 | [],t,u,e=>by simp [setT,getT]
 | x :: p,t,u,e=>by
  rw [setT,getT]
  cases inT t x with
  | error e'=>simp
  | ok w =>
   simp only
   rw [← Km (p:=p) (t:=w) (u:=u)]
   cases setT p w u with
   | error e'=>simp
   | ok y=>simp
theorem Kg:∀ {p:List Step} {t u y:Tree},okT t→okT u→setT p t u=.ok y→∃ w,getT p t=.ok w∧getT p y=.ok u∧setT p y w=.ok t∧okT y∧okT w∧(y.enc []).length+(w.enc []).length=(t.enc []).length+(u.enc []).length
 | [],t,u,y,ht,hu,h=>by
  cases h
  exact ⟨t,rfl,rfl,rfl,hu,ht,by omega⟩
 | x :: p,t,u,y,ht,hu,h=>by
  rw [setT] at h
  cases hi:inT t x with
  | error e=>rw [hi] at h;cases h
  | ok v =>
   rw [hi] at h
   have hw:=Jv ht hi
   have hv:=Ig ht hw
   simp only at h
   cases hs:setT p v u with
   | error e=>rw [hs] at h;cases h
   | ok z =>
    rw [hs] at h
    simp only at h
    cases h
    obtain ⟨w,g1,g2,g3,g4,g5,g6⟩:=Kg hv hu hs
    refine ⟨w,by rw [getT,hi];exact g1,by rw [getT,L7 hw];exact g2,?_,put_ok ht hw g4,g5,?_⟩
    ·rw [setT,L7 hw]
     simp only
     rw [g3]
     simp only
     rw [Ot hw,Jjf hw]
    ·have:=Jot (y:=z) hw
     omega
theorem Tw:∀ {p q:List Step} {t u y:Tree},okT t→okT u→(∀ x∈p,Bc x)→(∀ x∈q,Bc x)→B7 p q=true→setT p t u=.ok y→getT q y=getT q t
 | [],q,_,_,_,_,_,_,_,h,_=>by cases q <;> simp [B7] at h
 | x :: p,[],_,_,_,_,_,_,_,h,_=>by simp [B7] at h
 | x :: p,x' :: q,t,u,y,ht,hu,hp,hq,h,hs=>by
  rw [setT] at hs
  cases hi:inT t x with
  | error e=>rw [hi] at hs;cases hs
  | ok v =>
   rw [hi] at hs
   have hw:=Jv ht hi
   have hv:=Ig ht hw
   simp only at hs
   cases hz:setT p v u with
   | error e=>rw [hz] at hs;cases hs
   | ok z =>
    rw [hz] at hs
    simp only at hs
    cases hs
    by_cases hxx:x=x'
    ·subst hxx
     have hse:F8 x x:=Dc.2 rfl
     rw [B7] at h
     simp only [hse,decide_true,Bool.not_true,Bool.false_or] at h
     rw [getT,getT,L7 hw,hi]
     exact Tw hv hu (fun a ha=>hp a (List.mem_cons_of_mem _ ha)) (fun a ha=>hq a (List.mem_cons_of_mem _ ha)) h hz
    ·rw [getT,getT,Np hw (hp x List.mem_cons_self) (hq x' List.mem_cons_self) hxx]
theorem set_comm:∀ {p q:List Step} {t u v a b:Tree},okT t→okT u→okT v→(∀ x∈p,Bc x)→(∀ x∈q,Bc x)→B7 p q=true→setT p t u=.ok a→setT q t v=.ok b→∃ c,setT q a v=.ok c∧setT p b u=.ok c
 | [],q,_,_,_,_,_,_,_,_,_,_,h,_,_=>by cases q <;> simp [B7] at h
 | x :: p,[],_,_,_,_,_,_,_,_,_,_,h,_,_=>by simp [B7] at h
 | x :: p,x' :: q,t,u,v,a,b,ht,hu,hv,hp,hq,h,h1,h2=>by
  rw [setT] at h1 h2
  cases hi:inT t x with
  | error e=>rw [hi] at h1;cases h1
  | ok w =>
  cases hi':inT t x' with
  | error e=>rw [hi'] at h2;cases h2
  | ok w' =>
  rw [hi] at h1
  rw [hi'] at h2
  simp only at h1 h2
  cases hz:setT p w u with
  | error e=>rw [hz] at h1;cases h1
  | ok a1 =>
  cases hz':setT q w' v with
  | error e=>rw [hz'] at h2;cases h2
  | ok b1 =>
  rw [hz] at h1
  rw [hz'] at h2
  simp only at h1 h2
  cases h1;cases h2
  have hw:=Jv ht hi
  have hw':=Jv ht hi'
  by_cases hxx:x=x'
  ·subst hxx
   rw [hi] at hi'
   cases hi'
   have hse:F8 x x:=Dc.2 rfl
   rw [B7] at h
   simp only [hse,decide_true,Bool.not_true,Bool.false_or] at h
   obtain ⟨c,c1,c2⟩:=set_comm (Ig ht hw) hu hv (fun a ha=>hp a (List.mem_cons_of_mem _ ha)) (fun a ha=>hq a (List.mem_cons_of_mem _ ha)) h hz hz'
   refine ⟨putT t x c,?_,?_⟩
   ·rw [setT,L7 hw];simp only;rw [c1];simp only;rw [Ot hw]
   ·rw [setT,L7 hw];simp only;rw [c2];simp only;rw [Ot hw]
  ·have hx:=hp x List.mem_cons_self
   have hx':=hq x' List.mem_cons_self
   refine ⟨putT (putT t x a1) x' b1,?_,?_⟩
   ·rw [setT,Np hw hx hx' hxx,hi'];simp only;rw [hz']
   ·rw [setT,Np hw' hx' hx (Ne.symm hxx),hi];simp only;rw [hz];simp only
    rw [put_comm hw hw' hx hx' hxx]
theorem Lg:∀ (p q:List Step),B7 p q=B7 q p
 | [],q=>by cases q <;> rfl
 | x :: p,[]=>rfl
 | x :: p,y :: q=>by
  rw [B7,B7,Lg p q]
  have:decide (F8 x y)=decide (F8 y x):=by rw [decide_eq_decide,Dc,Dc];exact eq_comm
  rw [this]
theorem Lh:∀ (p:List Step) (i:Nat),B7 p (p.take i)=false
 | [],i=>by simp [B7]
 | x :: p,0=>rfl
 | x :: p,i+1=>by
  have hse:F8 x x:=Dc.2 rfl
  rw [List.take_succ_cons,B7,Lh p i];simp [hse]
theorem Fc:∀ (p q:List Step),Nz p q=B7 p q
 | [],q=>by unfold Nz;cases q <;> simp [B7]
 | x :: p,[]=>by unfold Nz;simp [B7]
 | x :: p,y :: q=>by
  have ih:=Fc p q
  unfold Nz at ih ⊢
  rw [B7,← ih]
  simp only [List.length_cons,Nat.succ_min_succ,List.take_succ_cons,List.cons.injEq]
  rw [Bool.eq_iff_iff]
  simp only [Bool.not_eq_true',decide_eq_false_iff_not,Bool.or_eq_true,← Dc]
  by_cases h:F8 x y <;> simp [h]
end Go.LX
set_option maxRecDepth 100000
set_option maxHeartbeats 2000000
namespace Go.LX
open Go Go.RowKit Go.Proofs
attribute [local irreducible] Al SWP Bi
theorem Jjk {r:Regs} {K:L→Prop}:capV r K (.p .snil)=K (.p (.int .i64 0)):=(rfl)
theorem Jpr:Det cx 200 [.p .snil,.p (.int .i64 0)] [] (.p .snil) []:=by
 have w1:IntKind.i64.wrap 0=0:=by decide
 have c1:((0:Int)<0)=False:=by simp
 skip
 (refine Al.of_code (X:=cx) false [] (by simp) Tryz.func200 (by kernel_rfl) rfl (by simp only [List.length_cons,List.length_nil,Tryz.ntmps200];decide) (by simp) ?_;refine Ae hm _ _ _ ?_;simp only [Tryz.ntmps200,Tryz.results200,go_sem,Nat.reduceLT,Nat.reduceLeDiff,Nat.reduceEqDiff,Nat.reduceAdd,Nat.reduceSub,Nat.reduceMul,Nat.reduceBEq,Int.reduceToNat,Int.reduceLT,Int.reduceLE,Int.reduceEq,Int.reduceAdd,Int.reduceSub,Int.reduceNeg,↓reduceIte,reduceCtorEq,w1,c1,K9,Hf,Jjk,Hi,if_false,if_true])
 (repeat' (first | (refine iteI (fun h=>?_) (fun h=>?_))|(refine Ak (by first | omega | (simp (disch:=omega) only [Aa,Ab,Ac] at *;omega)) ?_;intro b hb)|(refine And.intro (by first | omega | (simp (disch:=omega) only [Aa,Ab,Ac] at *;omega)) ?_)|((first | (refine Ah hm (by rfl) (by kernel_rfl) ?_));simp only [go_sem])|(exact True.intro)|(exfalso;omega)))
theorem d_Grow (n:Nat) (h0:0<n) (hn:n≤1000000):Det cx 200 [.p .snil,.p (.int .i64 n)] [] (.own 900 0 0) [(900,.row 53 6 [])]:=by
 have w1:IntKind.i64.wrap 0=0:=by decide
 have c1:((0:Int)<(n:Int))=True:=eq_true (by omega)
 have w2:IntKind.i64.wrap ((n:Int) - 0)=n:=by rw [Aa (by omega) (by omega)];omega
 have c2:((n:Int)<0)=False:=eq_false (by omega)
 skip
 (refine Al.of_code (X:=cx) true [(22,900)] (by simp) Tryz.func200 (by kernel_rfl) rfl (by simp only [List.length_cons,List.length_nil,Tryz.ntmps200];decide) (by simp) ?_;refine Ae hm _ _ _ ?_;simp only [Tryz.ntmps200,Tryz.results200,go_sem,Nat.reduceLT,Nat.reduceLeDiff,Nat.reduceEqDiff,Nat.reduceAdd,Nat.reduceSub,Nat.reduceMul,Nat.reduceBEq,Int.reduceToNat,Int.reduceLT,Int.reduceLE,Int.reduceEq,Int.reduceAdd,Int.reduceSub,Int.reduceNeg,↓reduceIte,reduceCtorEq,w1,c1,w2,c2,K9,Hf,Jjk,Hi,if_false,if_true])
 (repeat' (first | (refine iteI (fun h=>?_) (fun h=>?_))|(refine Ak (by first | omega | (simp (disch:=omega) only [Aa,Ab,Ac] at *;omega)) ?_;intro b hb)|(refine And.intro (by first | omega | (simp (disch:=omega) only [Aa,Ab,Ac] at *;omega)) ?_)|((first | (refine Ah hm (by rfl) (by kernel_rfl) ?_));simp only [go_sem])|(exact True.intro)|(exfalso;omega)))
 (repeat' (first | (refine And.intro (by first | omega | (simp;done)|(simp;omega)) ?_)))
 (repeat' (first | (refine iteI (fun h=>?_) (fun h=>?_))|(refine Ak (by first | omega | (simp (disch:=omega) only [Aa,Ab,Ac] at *;omega)) ?_;intro b hb)|(refine And.intro (by first | omega | (simp (disch:=omega) only [Aa,Ab,Ac] at *;omega)) ?_)|((first | (refine Ah hm (by rfl) (by kernel_rfl) ?_));simp only [go_sem])|(exact True.intro)|(exfalso;omega)))
 omega
theorem Jc4 (l:List (List UInt8×Tree)) (k:Nat):(A1 (unn (l.take k))).enc.length≤(A1 (unn l)).enc.length:=by
 rw [Rf];exact Oi _ _
theorem Jc5 {l:List (List UInt8×Tree)} {k:Nat} {p:List UInt8×Tree} (h:l[k]? = some p):(A1 (unn (l.take (k+1)))).enc=(A1 (unn (l.take k))).enc ++ p.2.enc []:=by
 have h':(unn l)[k]? = some ([],p.2):=by simp [unn,h]
 rw [Rf,Rf]
 exact Nu h'
theorem Y7 (l:List (List UInt8×Tree)) (hv:(A1 (unn l)).enc.length≤900000):Det cx 130 [.p (.sl (A4 l))] [] (.p (.sl (valL (A1 (unn l)).enc))) []:=by
 have hll:=Forest.len_le (A1 (unn l))
 rw [Ca,Kp] at hll
 have z0:(A1 (unn ([]:List (List UInt8×Tree)))).enc.length=0:=by simp [unn,A1,Bl]
 have z1:(A1 (unn ([]:List (List UInt8×Tree)))).enc=[]:=by simp [unn,A1,Bl]
 skip
 (refine Al.of_code (X:=cx) false [] (by simp) Tryz.func130 (by kernel_rfl) rfl (by simp only [List.length_cons,List.length_nil,Tryz.ntmps130];decide) (by simp) ?_;refine Ae hm _ _ _ ?_;simp only [Tryz.ntmps130,Tryz.results130,go_sem,Nat.reduceLT,Nat.reduceLeDiff,Nat.reduceEqDiff,Nat.reduceAdd,Nat.reduceSub,Nat.reduceMul,Nat.reduceBEq,Int.reduceToNat,Int.reduceLT,Int.reduceLE,Int.reduceEq,Int.reduceAdd,Int.reduceSub,Int.reduceNeg,↓reduceIte,reduceCtorEq,A5,A7,if_true,if_false])
 (repeat' (first | (refine iteI (fun h=>?_) (fun h=>?_))|(refine Ak (by first | omega | (simp (disch:=omega) only [Aa,Ab,Ac] at *;omega)) ?_;intro b hb)|(refine And.intro (by first | omega | (simp (disch:=omega) only [Aa,Ab,Ac] at *;omega)) ?_)|((first | (refine Ah hm (by rfl) (by kernel_rfl) ?_));simp only [go_sem])|(exact True.intro)|(exfalso;omega)))
 refine SWP.loop (fun k:Nat=>⟨Ba 36 [(0,.p (.sl (A4 l))),(3,.p (.int .i64 (A1 (unn (l.take k))).enc.length)),(9,.p (.sl (A4 l))),(10,.p (.int .i64 l.length)),(11,.p (.int .i64 k))],[]⟩) (fun k=>k≤l.length) (fun k=>l.length - k) 0 (by simp only [List.take_zero,z0];exact (St.le_slots (by simp only [Ap,Ar,Ao,Aj,Af,Nat.reduceEqDiff,reduceIte,Nat.reduceLT,Nat.reduceLeDiff];simp (disch:=omega) [Af,Ai,Au,Aa] <;> (repeat' apply And.intro) <;> omega) (by simp (disch:=omega) [Az,A3,Aw,Am,Af,Ai,Au,Aa]) (by simp [Ay]))) (Nat.zero_le _) ?_
 intro k hk
 by_cases hlt:¬ k<l.length
 ·have c1:((k:Int)<(l.length:Int))=False:=eq_false (by omega)
  have tk:l.take k=l:=List.take_of_length_le (by omega)
  have hg:=c1
  have w1:=c1
  have w2:=c1
  have c2:=c1
  skip
  by_cases hl0:l=[]
  ·subst hl0
   have hG:=Jpr
   skip
   (refine Ae hm _ _ _ ?_;simp only [go_sem,Nat.reduceLT,Nat.reduceEqDiff,↓reduceIte,reduceCtorEq,tk,z0])
   (repeat' (first | (refine iteI (fun h=>?_) (fun h=>?_))|(refine Ak (by first | omega | (simp (disch:=omega) only [Aa,Ab,Ac] at *;omega)) ?_;intro b hb)|(refine And.intro (by first | omega | (simp (disch:=omega) only [Aa,Ab,Ac] at *;omega)) ?_)|((first | (refine Ah hm (by rfl) (by kernel_rfl) ?_)|(refine Det.use (hG) ?_)|(refine Det.useQ (hG) ?_)|(refine Ag.use (hG) ?_)|(refine Ad.use (hG) ?_));simp only [go_sem,Nat.reduceLT,↓reduceIte,reduceCtorEq,A5])|(exact True.intro)|(exfalso;omega)))
   refine SWP.loop (fun i:Nat=>⟨Ba 36 [(6,.p (.sl [])),(25,.p (.sl [])),(26,.p (.int .i64 0)),(27,.p (.int .i64 0))],[]⟩) (fun _=>True) (fun _=>0) 0 (St.le_slots (by simp only [Ap,Ar,Ao,Aj,Af,Nat.reduceEqDiff,reduceIte,Nat.reduceLT,Nat.reduceLeDiff];simp (disch:=omega) [Af,Ai,Au,Aa] <;> (repeat' apply And.intro) <;> omega) (by simp (disch:=omega) [Az,A3,Aw,Am,Af,Ai,Au,Aa]) (by simp [Ay])) trivial ?_
   intro i _
   (refine Ae hm _ _ _ ?_;simp only [go_sem,Nat.reduceLT,Nat.reduceEqDiff,Int.reduceLT,↓reduceIte])
   (repeat' (first | (refine iteI (fun h=>?_) (fun h=>?_))|(refine Ak (by first | omega | (simp (disch:=omega) only [Aa,Ab,Ac] at *;omega)) ?_;intro b hb)|(refine And.intro (by first | omega | (simp (disch:=omega) only [Aa,Ab,Ac] at *;omega)) ?_)|((first | (refine Ah hm (by rfl) (by kernel_rfl) ?_));simp only [go_sem])|(exact True.intro)|(exfalso;omega)))
   rw [z1];rfl
  ·have hpos:0<(A1 (unn l)).enc.length:=by
    have:0<l.length:=by cases l <;> simp at hl0 ⊢
    omega
   have hG:=d_Grow (A1 (unn l)).enc.length hpos (by omega)
   (refine Ae hm _ _ _ ?_;simp only [go_sem,Nat.reduceLT,Nat.reduceEqDiff,↓reduceIte,reduceCtorEq,c1,tk])
   (repeat' (first | (refine iteI (fun h=>?_) (fun h=>?_))|(refine Ak (by first | omega | (simp (disch:=omega) only [Aa,Ab,Ac] at *;omega)) ?_;intro b hb)|(refine And.intro (by first | omega | (simp (disch:=omega) only [Aa,Ab,Ac] at *;omega)) ?_)|((first | (refine Ah hm (by rfl) (by kernel_rfl) ?_)|(refine Det.use (hG) ?_)|(refine Det.useQ (hG) ?_)|(refine Ag.use (hG) ?_)|(refine Ad.use (hG) ?_));simp only [go_sem,Nat.reduceLT,↓reduceIte,reduceCtorEq,A5])|(exact True.intro)|(exfalso;omega)))
   refine SWP.of_le (B1 [(24,33)] _ (by simp)) ?_
   simp only [go_sem,↓reduceIte]
   refine SWP.loop (fun k:Nat=>⟨Ba 36 [(6,.own 33 0 (A1 (unn (l.take k))).enc.length),(25,.p (.sl (A4 l))),(26,.p (.int .i64 l.length)),(27,.p (.int .i64 k))],[(33,.row 53 6 (valL (A1 (unn (l.take k))).enc))]⟩) (fun k=>k≤l.length) (fun k=>l.length - k) 0 (by simp only [List.take_zero,z0,z1,Jjy];exact (St.le_slots (by simp only [Ap,Ar,Ao,Aj,Af,Nat.reduceEqDiff,reduceIte,Nat.reduceLT,Nat.reduceLeDiff];simp (disch:=omega) [Af,Ai,Au,Aa] <;> (repeat' apply And.intro) <;> omega) (by simp (disch:=omega) [Az,A3,Aw,Am,Af,Ai,Au,Aa]) (by simp [Ay]))) (Nat.zero_le _) ?_
   intro j hj
   by_cases hjt:¬ j<l.length
   ·have d1:((j:Int)<(l.length:Int))=False:=eq_false (by omega)
    have tj:l.take j=l:=List.take_of_length_le (by omega)
    have tv:(valL (A1 (unn l)).enc).take (A1 (unn l)).enc.length=valL (A1 (unn l)).enc:=List.take_of_length_le (by simp)
    have lv:((A1 (unn l)).enc.length≤(A1 (unn l)).enc.length)=True:=eq_true (Nat.le_refl _)
    have hg2:=d1
    have w3:=d1
    skip
    (refine Ae hm _ _ _ ?_;simp only [go_sem,Nat.reduceLT,Nat.reduceEqDiff,↓reduceIte,A7,d1,tj,tv,lv])
    (repeat' (first | (refine iteI (fun h=>?_) (fun h=>?_))|(refine Ak (by first | omega | (simp (disch:=omega) only [Aa,Ab,Ac] at *;omega)) ?_;intro b hb)|(refine And.intro (by first | omega | (simp (disch:=omega) only [Aa,Ab,Ac] at *;omega)) ?_)|((first | (refine Ah hm (by rfl) (by kernel_rfl) ?_));simp only [go_sem])|(exact True.intro)|(exfalso;omega)))
   ·have hjt:=Decidable.not_not.1 hjt
    have d1:((j:Int)<(l.length:Int))=True:=eq_true (by omega)
    obtain ⟨p,hp⟩:∃ p,l[j]? = some p:=⟨_,List.getElem?_eq_getElem hjt⟩
    have hg2:(A4 l)[j]? = some [.sl (valL (p.2.enc []))]:=by simp [A4,hp]
    have hs:=Jc4 l (j+1)
    have h1:=Jc5 hp
    rw [h1,List.length_append] at hs
    have w3:=wj1 (i:=j) (by omega)
    have tj:=d1
    have tv:=d1
    have lv:=d1
    (refine Ae hm _ _ _ ?_;simp only [go_sem,Nat.reduceLT,Nat.reduceEqDiff,Nat.reduceAdd,↓reduceIte,A7,d1,hg2,w3])
    refine ⟨E7 _,by omega,by omega,?_⟩
    (repeat' (first | (refine iteI (fun h=>?_) (fun h=>?_))|(refine Ak (by first | omega | (simp (disch:=omega) only [Aa,Ab,Ac] at *;omega)) ?_;intro b hb)|(refine And.intro (by first | omega | (simp (disch:=omega) only [Aa,Ab,Ac] at *;omega)) ?_)|((first | (refine Ah hm (by rfl) (by kernel_rfl) ?_));simp only [go_sem])|(exact True.intro)|(exfalso;omega)))
    refine ⟨j+1,hjt,by omega,?_⟩
    rw [h1,List.length_append,Ji]
    exact (St.le_slots (by simp only [Ap,Ar,Ao,Aj,Af,Nat.reduceEqDiff,reduceIte,Nat.reduceLT,Nat.reduceLeDiff];simp (disch:=omega) [Af,Ai,Au,Aa] <;> (repeat' apply And.intro) <;> omega) (by simp (disch:=omega) [Az,A3,Aw,Am,Af,Ai,Au,Aa]) (by simp [Ay]))
 ·have hlt:=Decidable.not_not.1 hlt
  have c1:((k:Int)<(l.length:Int))=True:=eq_true (by omega)
  obtain ⟨p,hp⟩:∃ p,l[k]? = some p:=⟨_,List.getElem?_eq_getElem hlt⟩
  have hg:(A4 l)[k]? = some [.sl (valL (p.2.enc []))]:=by simp [A4,hp]
  have hs:=Jc4 l (k+1)
  have h1:=Jc5 hp
  rw [h1,List.length_append] at hs
  have tk:=c1
  have w1:=wj1 (i:=k) (by omega)
  have w2:IntKind.i64.wrap (((A1 (unn (l.take k))).enc.length:Int)+((p.2.enc []).length:Int))=(((A1 (unn (l.take k))).enc.length+(p.2.enc []).length:Nat):Int):=by rw [Aa (by omega) (by omega)];omega
  have c2:((((A1 (unn (l.take k))).enc.length+(p.2.enc []).length:Nat):Int)<0)=False:=eq_false (by omega)
  have d1:=c1
  have tj:=c1
  have tv:=c1
  have lv:=c1
  have hg2:=c1
  have w3:=c1
  (refine Ae hm _ _ _ ?_;simp only [go_sem,Nat.reduceLT,Nat.reduceEqDiff,↓reduceIte,reduceCtorEq,A7,c1,hg,w1,w2,c2])
  (repeat' (first | (refine And.intro (by first | omega | (simp;done)|(simp;omega)) ?_)))
  (repeat' (first | (refine iteI (fun h=>?_) (fun h=>?_))|(refine Ak (by first | omega | (simp (disch:=omega) only [Aa,Ab,Ac] at *;omega)) ?_;intro b hb)|(refine And.intro (by first | omega | (simp (disch:=omega) only [Aa,Ab,Ac] at *;omega)) ?_)|((first | (refine Ah hm (by rfl) (by kernel_rfl) ?_));simp only [go_sem])|(exact True.intro)|(exfalso;omega)))
  refine ⟨k+1,hlt,by omega,?_⟩
  rw [h1,List.length_append]
  exact (St.le_slots (by simp only [Ap,Ar,Ao,Aj,Af,Nat.reduceEqDiff,reduceIte,Nat.reduceLT,Nat.reduceLeDiff];simp (disch:=omega) [Af,Ai,Au,Aa] <;> (repeat' apply And.intro) <;> omega) (by simp (disch:=omega) [Az,A3,Aw,Am,Af,Ai,Au,Aa]) (by simp [Ay]))
end Go.LX
set_option maxRecDepth 100000
set_option maxHeartbeats 2000000
namespace Go.LX
open Go Go.RowKit Go.Proofs
attribute [local irreducible] Al SWP Bi
theorem Jfu {s:List UInt8} {i:Nat} (h:i<s.length):Pk (s.take (i+1))=(Pk (s.take i) && (decide (48≤at_ s i) && decide (at_ s i≤57))):=by
 simp only [Pk,List.take_add_one,List.getElem?_eq_getElem h,List.all_append,Ql h]
 simp [Ja8]
theorem Qp {s:List UInt8} {i:Nat} (h:i<s.length) (hb:at_ s i<48∨57<at_ s i):Pk s=false:=by
 simp only [Pk,List.all_eq_false]
 rw [Ql h] at hb
 exact ⟨s[i],List.getElem_mem h,by simp [Ja8];omega⟩
theorem Jj5 (s:List UInt8) (hs:s.length≤9223372036854775807):Det cx 201 [.p (.str s)] [] (.p (.bool (Pk s))) []:=by
 (refine Al.of_code (X:=cx) false [] (by simp) Tryz.func201 (by kernel_rfl) rfl (by simp only [List.length_cons,List.length_nil,Tryz.ntmps201];decide) (by simp) ?_;refine Ae hm _ _ _ ?_;simp only [Tryz.ntmps201,Tryz.results201,go_sem,Nat.reduceLT,Nat.reduceLeDiff,Nat.reduceEqDiff,Nat.reduceAdd,Nat.reduceSub,Nat.reduceMul,Nat.reduceBEq,Int.reduceToNat,Int.reduceLT,Int.reduceLE,Int.reduceEq,Int.reduceAdd,Int.reduceSub,Int.reduceNeg,↓reduceIte,reduceCtorEq])
 refine SWP.loop (fun i:Nat=>⟨Ba 20 [(0,.p (.str s)),(3,.p (.int .i64 i))],[]⟩) (fun i=>i≤s.length∧Pk (s.take i)=true) (fun i=>s.length - i) 0 (St.le_slots (by simp only [Ap,Ar,Ao,Aj,Af,Nat.reduceEqDiff,reduceIte,Nat.reduceLT,Nat.reduceLeDiff];simp (disch:=omega) [Af,Ai,Au,Aa] <;> (repeat' apply And.intro) <;> omega) (by simp (disch:=omega) [Az,A3,Aw,Am,Af,Ai,Au,Aa]) (by simp [Ay])) ⟨Nat.zero_le _,rfl⟩ ?_
 rintro i ⟨h1,h2⟩
 (refine Ae hm _ _ _ ?_;simp only [go_sem,Nat.reduceLT,Nat.reduceEqDiff,↓reduceIte,reduceCtorEq])
 (repeat' (first | (refine iteI (fun h=>?_) (fun h=>?_))|(refine Ak (by first | omega | (simp (disch:=omega) only [Aa,Ab,Ac] at *;omega)) ?_;intro b hb)|(refine And.intro (by first | omega | (simp (disch:=omega) only [Aa,Ab,Ac] at *;omega)) ?_)|((first | (refine Ah hm (by rfl) (by kernel_rfl) ?_));simp only [go_sem])|(exact True.intro)|(exfalso;omega)))
 ·exact (Qp (i:=i) (by omega) (by omega)).symm
 ·exact (Qp (i:=i) (by omega) (by omega)).symm
 ·refine ⟨i+1,⟨by omega,?_⟩,by omega,(St.le_slots (by simp only [Ap,Ar,Ao,Aj,Af,Nat.reduceEqDiff,reduceIte,Nat.reduceLT,Nat.reduceLeDiff];simp (disch:=omega) [Af,Ai,Au,Aa] <;> (repeat' apply And.intro) <;> omega) (by simp (disch:=omega) [Az,A3,Aw,Am,Af,Ai,Au,Aa]) (by simp [Ay]))⟩
  rw [Jfu (by omega),h2]
  simp;omega
 ·rw [List.take_of_length_le (by omega)] at h2
  exact h2.symm
theorem M0 (many:Int) (s:List UInt8) (g:Bool) (e:Int) (hs:s.length≤1000000) (he:-9223372036854775808≤e) (he':e≤9223372036854775807):Det cx 131 [.p (.agg [.int .i64 3,.int .i64 many,.str [],.str s,.bool g,.int .i64 e])] [] (.p (.bool (decide (many=0∧Yz s g e)))) []:=by
 (refine Al.of_code (X:=cx) false [] (by simp) Tryz.func131 (by kernel_rfl) rfl (by simp only [List.length_cons,List.length_nil,Tryz.ntmps131];decide) (by simp) ?_;refine Ae hm _ _ _ ?_;simp only [Tryz.ntmps131,Tryz.results131,go_sem,Nat.reduceLT,Nat.reduceLeDiff,Nat.reduceEqDiff,Nat.reduceAdd,Nat.reduceSub,Nat.reduceMul,Nat.reduceBEq,Int.reduceToNat,Int.reduceLT,Int.reduceLE,Int.reduceEq,Int.reduceAdd,Int.reduceSub,Int.reduceNeg,↓reduceIte,reduceCtorEq])
 (repeat' (first | (refine iteI (fun h=>?_) (fun h=>?_))|(refine Ak (by first | omega | (simp (disch:=omega) only [Aa,Ab,Ac] at *;omega)) ?_;intro b hb)|(refine And.intro (by first | omega | (simp (disch:=omega) only [Aa,Ab,Ac] at *;omega)) ?_)|((first | (refine Ah hm (by rfl) (by kernel_rfl) ?_)|(refine Det.use (Jj5 _ (by omega)) ?_)|(refine Det.useQ (Jj5 _ (by omega)) ?_));simp only [go_sem,Nat.reduceLT,Nat.reduceEqDiff,Int.reduceToNat,Int.reduceLE,Int.reduceNeg,↓reduceIte])|(exact True.intro)|(exfalso;omega)))
 all_goals (try simp (disch:=omega) only [Aa,Qs,Ab,Jlh,Mf,Ja0,Jcc,Ja7,Jak] at *)
 all_goals (try rw [show (↑s.length - 1:Int).toNat=s.length - 1 by omega] at *)
 all_goals (rw [Bool.eq_iff_iff])
 all_goals (have hs0:s.length=0 ↔ s=[]:=List.length_eq_zero_iff)
 all_goals (simp only [Yz,decide_eq_true_eq,beq_iff_eq,bne_iff_ne,Bool.false_eq_true,false_iff])
 all_goals (by_cases h0:s=[])
 all_goals (simp only [h0,if_true,if_false] at *)
 all_goals (first | omega | (simp_all <;> omega) | skip)
theorem Ja1 (k m:Int) (nm s:List UInt8) (g:Bool) (e:Int) (hs:s.length≤1000000) (he:-9223372036854775808≤e) (he':e≤9223372036854775807):Det cx 66 [.p (.agg [.int .i64 k,.int .i64 m,.str nm,.str s,.bool g,.int .i64 e])] [] (.p (.bool (decide (G3 k s g e m)))) []:=by
 by_cases hk:k=3
 ·subst hk
  (refine Al.of_code (X:=cx) false [] (by simp) Tryz.func66 (by kernel_rfl) rfl (by simp only [List.length_cons,List.length_nil,Tryz.ntmps66];decide) (by simp) ?_;refine Ae hm _ _ _ ?_;simp only [Tryz.ntmps66,Tryz.results66,go_sem,Nat.reduceLT,Nat.reduceLeDiff,Nat.reduceEqDiff,Nat.reduceAdd,Nat.reduceSub,Nat.reduceMul,Nat.reduceBEq,Int.reduceToNat,Int.reduceLT,Int.reduceLE,Int.reduceEq,Int.reduceAdd,Int.reduceSub,Int.reduceNeg,↓reduceIte,reduceCtorEq])
  (repeat' (first | (refine iteI (fun h=>?_) (fun h=>?_))|(refine Ak (by first | omega | (simp (disch:=omega) only [Aa,Ab,Ac] at *;omega)) ?_;intro b hb)|(refine And.intro (by first | omega | (simp (disch:=omega) only [Aa,Ab,Ac] at *;omega)) ?_)|((first | (refine Ah hm (by rfl) (by kernel_rfl) ?_)|(refine Det.use (M0 m s g e hs he he') ?_)|(refine Det.useQ (M0 m s g e hs he he') ?_)|(refine Det.use (Cn s hs) ?_)|(refine Det.useQ (Cn s hs) ?_));simp only [go_sem,Nat.reduceLT,Nat.reduceEqDiff,↓reduceIte])|(exact True.intro)|(exfalso;omega)))
  all_goals (first | rfl | (simp [G3];done))
 ·(refine Al.of_code (X:=cx) false [] (by simp) Tryz.func66 (by kernel_rfl) rfl (by simp only [List.length_cons,List.length_nil,Tryz.ntmps66];decide) (by simp) ?_;refine Ae hm _ _ _ ?_;simp only [Tryz.ntmps66,Tryz.results66,go_sem,Nat.reduceLT,Nat.reduceLeDiff,Nat.reduceEqDiff,Nat.reduceAdd,Nat.reduceSub,Nat.reduceMul,Nat.reduceBEq,Int.reduceToNat,Int.reduceLT,Int.reduceLE,Int.reduceEq,Int.reduceAdd,Int.reduceSub,Int.reduceNeg,↓reduceIte,reduceCtorEq])
  (repeat' (first | (refine iteI (fun h=>?_) (fun h=>?_))|(refine Ak (by first | omega | (simp (disch:=omega) only [Aa,Ab,Ac] at *;omega)) ?_;intro b hb)|(refine And.intro (by first | omega | (simp (disch:=omega) only [Aa,Ab,Ac] at *;omega)) ?_)|((first | (refine Ah hm (by rfl) (by kernel_rfl) ?_)|(refine Det.use (Cn s hs) ?_)|(refine Det.useQ (Cn s hs) ?_));simp only [go_sem,Nat.reduceLT,Nat.reduceLeDiff,Nat.reduceEqDiff,Nat.reduceAdd,↓reduceIte])|(exact True.intro)|(exfalso;omega)))
  all_goals (rw [Bool.eq_iff_iff])
  all_goals (simp only [G3,decide_eq_true_eq,beq_iff_eq,Bool.and_eq_true,Bool.false_eq_true,false_iff])
  all_goals (first | omega | (simp_all;done)|(simp_all <;> omega))
end Go.LX
