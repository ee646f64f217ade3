/- Values at a path. -/
import Derived.Test.YtmejkfclabmijaaGreatDoorLxT
import Derived.Test.YtmejkfclabmijaaGreatDoorLxH
import Derived.Test.YtmejkfclabmijaaGreatDoorLxJ
import Derived.Test.YtmejkfclabmijaaGreatDoorLxK
import Derived.Lib.Overlaps
import Derived.Test.YtmejkfclabmijaaGreatDoorLxM
set_option linter.unusedSimpArgs false
set_option linter.unusedVariables false
set_option linter.unusedSectionVars false
set_option linter.unnecessarySimpa false
set_option maxRecDepth 100000
set_option maxHeartbeats 2000000
namespace Go.LX
open Go Go.RowKit Go.Proofs
attribute [local irreducible] Al SWP Bi
def getT:List Step→Tree→Except Nat Tree
 | [],t=>.ok t
 | x :: p,t=>match inT t x with
  | .ok u=>getT p u
  | .error e=>.error e
theorem Jd7:∀ {f:Forest} {p:List UInt8×Tree},p∈f.list→(p.2.enc []).length≤f.enc.length
 | .nil,p,h=>by cases h
 | .cons nm t r,p,h=>by
  rw [A0,List.length_append]
  rcases List.mem_cons.1 h with rfl | h
  ·simp only;rw [G7 t nm];omega
  ·have:=Jd7 h;omega
theorem H2 {name:List UInt8}:∀ {l:List (List UInt8×Tree)} {t:Tree},Ch name l=some t→∃ p∈l,p.2=t∧p.1=name
 | [],t,h=>by cases h
 | p :: l,t,h=>by
  rw [Ch] at h
  split at h
  ·cases h;exact ⟨p,List.mem_cons_self,rfl,by assumption⟩
  ·obtain ⟨q,h1,h2⟩:=H2 h
   exact ⟨q,List.mem_cons_of_mem _ h1,h2⟩
theorem Jd5 {k:Int} {s:List UInt8} {g:Bool} {e:Int} {kids:Forest} {x:Step} {u:Tree} (h:inT (.mk k s g e kids) x=.ok u):∃ p∈kids.list,p.2=u:=by
 cases hp:x.part
 ·by_cases hk:k=6
  ·subst hk
   rw [Tp hp] at h
   cases hf:Ch x.name kids.list with
   | none=>rw [hf] at h;cases h
   | some t =>
    rw [hf] at h
    cases h
    obtain ⟨p,h1,h2,_⟩:=H2 hf
    exact ⟨p,h1,h2⟩
  ·rw [Iw hp hk] at h;cases h
 ·by_cases hk:k=5
  ·subst hk
   rw [Tm hp] at h
   cases hf:kids.list[x.n.toNat]? with
   | none=>rw [hf] at h;cases h
   | some p =>
    rw [hf] at h
    cases h
    exact ⟨p,List.mem_of_getElem? hf,rfl⟩
  ·rw [Iz hp hk] at h;cases h
theorem M2 {t:Tree} {x:Step} {er:Nat} (h:inT t x=.error er):er=5∨er=6:=by
 cases t with
 | mk k s g e kids =>
  cases hp:x.part
  ·by_cases hk:k=6
   ·subst hk
    rw [Tp hp] at h
    cases hf:Ch x.name kids.list with
    | none=>rw [hf] at h;cases h;exact .inr rfl
    | some t=>rw [hf] at h;cases h
   ·rw [Iw hp hk] at h;cases h;exact .inl rfl
  ·by_cases hk:k=5
   ·subst hk
    rw [Tm hp] at h
    cases hf:kids.list[x.n.toNat]? with
    | none=>rw [hf] at h;cases h;exact .inr rfl
    | some p=>rw [hf] at h;cases h
   ·rw [Iz hp hk] at h;cases h;exact .inl rfl
theorem Q7 {t u:Tree} {x:Step} (h:inT t x=.ok u):(u.enc []).length+1≤(t.enc []).length:=by
 cases t with
 | mk k s g e kids =>
  obtain ⟨p,h1,rfl⟩:=Jd5 h
  have:=Jd7 h1
  rw [A6,List.length_cons];omega
theorem M1 (p:List Step) (t:Tree) (hp:p.length≤1000000) (hok:∀ x∈p,Bc x) (hv:(t.enc []).length≤1000000):Det cx 24 [.p (.sl (Bb p)),.p (.sl (valL (t.enc [])))] [] (getR (getT p t)) []:=by
 skip
 (refine Al.of_code (X:=cx) false [] (by simp) Tryz.func24 (by kernel_rfl) rfl (by simp only [List.length_cons,List.length_nil,Tryz.ntmps24];decide) (by simp) ?_;refine Ae hm _ _ _ ?_;simp only [Tryz.ntmps24,Tryz.results24,go_sem,Nat.reduceLT,Nat.reduceLeDiff,Nat.reduceEqDiff,Nat.reduceAdd,Nat.reduceSub,Nat.reduceMul,Nat.reduceBEq,Int.reduceToNat,Int.reduceLT,Int.reduceLE,Int.reduceEq,Int.reduceAdd,Int.reduceSub,Int.reduceNeg,↓reduceIte,reduceCtorEq,Aq])
 (repeat' (first | (refine iteI (fun h=>?_) (fun h=>?_))|(refine Ak (by first | omega | (simp (disch:=omega) only [Aa,Ab,Ac] at *;omega)) ?_;intro b hb)|(refine And.intro (by first | omega | (simp (disch:=omega) only [Aa,Ab,Ac] at *;omega)) ?_)|((first | (refine Ah hm (by rfl) (by kernel_rfl) ?_));simp only [go_sem])|(exact True.intro)|(exfalso;omega)))
 refine SWP.loop (fun x:Nat×Tree=>⟨Ba 28 [(0,.p (.sl (Bb p))),(1,.p (.sl (valL (x.2.enc [])))),(10,.p (.sl (Bb p))),(11,.p (.int .i64 p.length)),(12,.p (.int .i64 x.1))],[]⟩) (fun x=>x.1≤p.length∧(x.2.enc []).length≤1000000∧getT (p.drop x.1) x.2=getT p t) (fun x=>p.length - x.1) (0,t) (St.le_slots (by simp only [Ap,Ar,Ao,Aj,Af,Nat.reduceEqDiff,reduceIte,Nat.reduceLT,Nat.reduceLeDiff];simp (disch:=omega) [Af,Ai,Au,Aa] <;> (repeat' apply And.intro) <;> omega) (by simp (disch:=omega) [Az,A3,Aw,Am,Af,Ai,Au,Aa]) (by simp [Ay])) ⟨Nat.zero_le _,hv,rfl⟩ ?_
 rintro ⟨i,u⟩ ⟨h1,h2,h3⟩
 simp only at h1 h2 h3
 by_cases hi:¬ i<p.length
 ·have c1:((i:Int)<(p.length:Int))=False:=eq_false (by omega)
  rw [show p.drop i=[] from List.drop_eq_nil_of_le (by omega),getT] at h3
  skip
  (refine Ae hm _ _ _ ?_;simp only [go_sem,Nat.reduceLT,Nat.reduceEqDiff,↓reduceIte,reduceCtorEq,c1])
  (repeat' (first | (refine iteI (fun h=>?_) (fun h=>?_))|(refine Ak (by first | omega | (simp (disch:=omega) only [Aa,Ab,Ac] at *;omega)) ?_;intro b hb)|(refine And.intro (by first | omega | (simp (disch:=omega) only [Aa,Ab,Ac] at *;omega)) ?_)|((first | (refine Ah hm (by rfl) (by kernel_rfl) ?_));simp only [go_sem])|(exact True.intro)|(exfalso;omega)))
  rw [← h3];rfl
 ·have hi:=Decidable.not_not.1 hi
  obtain ⟨x,hx⟩:∃ x,p[i]? = some x:=⟨_,List.getElem?_eq_getElem hi⟩
  have hgx:=Dk hx
  have hdx:p.drop i=x :: p.drop (i+1):=by rw [List.drop_eq_getElem_cons hi];congr 1;rw [List.getElem?_eq_getElem hi] at hx;exact Option.some.inj hx
  have hok':=hok x (List.mem_of_getElem? hx)
  rw [hdx,getT] at h3
  have hin:=d_in u x h2 hok'
  have c1:((i:Int)<(p.length:Int))=True:=eq_true (by omega)
  cases hu:inT u x with
  | error er =>
   rw [hu] at hin h3
   unfold getR at hin
   skip
   (refine Ae hm _ _ _ ?_;simp only [go_sem,Nat.reduceLT,Nat.reduceLeDiff,Nat.reduceEqDiff,Nat.reduceAdd,↓reduceIte,reduceCtorEq,c1,hgx,wi1 (i:=i) (by omega)])
   (repeat' (first | (refine iteI (fun h=>?_) (fun h=>?_))|(refine Ak (by first | omega | (simp (disch:=omega) only [Aa,Ab,Ac] at *;omega)) ?_;intro b hb)|(refine And.intro (by first | omega | (simp (disch:=omega) only [Aa,Ab,Ac] at *;omega)) ?_)|((first | (refine Ah hm (by rfl) (by kernel_rfl) ?_)|(refine Det.use (hin) ?_)|(refine Det.useQ (hin) ?_)|(refine Ag.use (hin) ?_)|(refine Ad.use (hin) ?_));simp only [go_sem,Nat.reduceLT,Nat.reduceEqDiff,↓reduceIte,reduceCtorEq,wi1 (i:=i) (by omega)])|(exact True.intro)|(exfalso;omega)))
   ·rw [← h3];rfl
   ·have:=M2 hu;omega
  | ok w =>
   rw [hu] at hin h3
   unfold getR at hin
   have hle:=Q7 hu
   (refine Ae hm _ _ _ ?_;simp only [go_sem,Nat.reduceLT,Nat.reduceLeDiff,Nat.reduceEqDiff,Nat.reduceAdd,↓reduceIte,reduceCtorEq,c1,hgx,wi1 (i:=i) (by omega)])
   (repeat' (first | (refine iteI (fun h=>?_) (fun h=>?_))|(refine Ak (by first | omega | (simp (disch:=omega) only [Aa,Ab,Ac] at *;omega)) ?_;intro b hb)|(refine And.intro (by first | omega | (simp (disch:=omega) only [Aa,Ab,Ac] at *;omega)) ?_)|((first | (refine Ah hm (by rfl) (by kernel_rfl) ?_)|(refine Det.use (hin) ?_)|(refine Det.useQ (hin) ?_)|(refine Ag.use (hin) ?_)|(refine Ad.use (hin) ?_));simp only [go_sem,Nat.reduceLT,Nat.reduceEqDiff,↓reduceIte,reduceCtorEq,wi1 (i:=i) (by omega)])|(exact True.intro)|(exfalso;omega)))
   exact ⟨(i+1,w),⟨by simp only;omega,by simp only;omega,h3⟩,by simp only;omega,(St.le_slots (by simp only [Ap,Ar,Ao,Aj,Af,Nat.reduceEqDiff,reduceIte,Nat.reduceLT,Nat.reduceLeDiff];simp (disch:=omega) [Af,Ai,Au,Aa] <;> (repeat' apply And.intro) <;> omega) (by simp (disch:=omega) [Az,A3,Aw,Am,Af,Ai,Au,Aa]) (by simp [Ay]))⟩
theorem Jcm {name:List UInt8} {l:List (List UInt8×Tree)} {k:Nat} {p:List UInt8×Tree} (h:l[k]? = some p) (hn:p.1≠name) (ht:∀ q∈l.take k,q.1≠name):∀ q∈l.take (k+1),q.1≠name:=by
 intro q hq
 rw [List.take_add_one,h] at hq
 rcases List.mem_append.1 hq with hq | hq
 ·exact ht q hq
 ·simp at hq;subst hq;exact hn
theorem Re (nm:List UInt8) (s:List UInt8) (g:Bool) (e:Int) (kids:Forest) (name:List UInt8) (hv:kids.enc.length≤999999):Det cx 122 [.p (.sl (valL ((Tree.mk 6 s g e kids).enc nm))),.p (.str name)] [] (Oo (Ch name kids.list)) []:=by
 have hll:=Forest.len_le kids
 have hkl:=Forest.list_len kids
 skip
 (refine Al.of_code (X:=cx) false [] (by simp) Tryz.func122 (by kernel_rfl) rfl (by simp only [List.length_cons,List.length_nil,Tryz.ntmps122];decide) (by simp) ?_;refine Ae hm _ _ _ ?_;simp only [Tryz.ntmps122,Tryz.results122,go_sem,Nat.reduceLT,Nat.reduceLeDiff,Nat.reduceEqDiff,Nat.reduceAdd,Nat.reduceSub,Nat.reduceMul,Nat.reduceBEq,Int.reduceToNat,Int.reduceLT,Int.reduceLE,Int.reduceEq,Int.reduceAdd,Int.reduceSub,Int.reduceNeg,↓reduceIte,reduceCtorEq,A9])
 (repeat' (first | (refine iteI (fun h=>?_) (fun h=>?_))|(refine Ak (by first | omega | (simp (disch:=omega) only [Aa,Ab,Ac] at *;omega)) ?_;intro b hb)|(refine And.intro (by first | omega | (simp (disch:=omega) only [Aa,Ab,Ac] at *;omega)) ?_)|((first | (refine Ah hm (by rfl) (by kernel_rfl) ?_)|(refine Det.use (Ir nm s g e kids hv) ?_)|(refine Det.useQ (Ir nm s g e kids hv) ?_));simp only [go_sem,Nat.reduceLT,↓reduceIte])|(exact True.intro)|(exfalso;omega)))
 refine SWP.loop (fun i:Nat=>⟨Ba 27 [(0,.p (.sl (valL ((Tree.mk 6 s g e kids).enc nm)))),(1,.p (.str name)),(6,.p (.sl (Bd kids.list))),(7,.p (.int .i64 i))],[]⟩) (fun i=>i≤kids.list.length∧∀ q∈kids.list.take i,q.1≠name) (fun i=>kids.list.length - i) 0 (St.le_slots (by simp only [Ap,Ar,Ao,Aj,Af,Nat.reduceEqDiff,reduceIte,Nat.reduceLT,Nat.reduceLeDiff];simp (disch:=omega) [Af,Ai,Au,Aa] <;> (repeat' apply And.intro) <;> omega) (by simp (disch:=omega) [Az,A3,Aw,Am,Af,Ai,Au,Aa]) (by simp [Ay])) ⟨Nat.zero_le _,by simp⟩ ?_
 rintro i ⟨h1,h2⟩
 by_cases hi:¬ i<kids.list.length
 ·have c1:((i:Int)<(kids.list.length:Int))=False:=eq_false (by omega)
  rw [List.take_of_length_le (by omega)] at h2
  rw [Ls h2]
  skip
  (refine Ae hm _ _ _ ?_;simp only [go_sem,Nat.reduceLT,Nat.reduceEqDiff,↓reduceIte,reduceCtorEq,A9,c1])
  (repeat' (first | (refine iteI (fun h=>?_) (fun h=>?_))|(refine Ak (by first | omega | (simp (disch:=omega) only [Aa,Ab,Ac] at *;omega)) ?_;intro b hb)|(refine And.intro (by first | omega | (simp (disch:=omega) only [Aa,Ab,Ac] at *;omega)) ?_)|((first | (refine Ah hm (by rfl) (by kernel_rfl) ?_));simp only [go_sem])|(exact True.intro)|(exfalso;omega)))
  rfl
 ·have hi:=Decidable.not_not.1 hi
  obtain ⟨p,hp⟩:∃ p,kids.list[i]? = some p:=⟨_,List.getElem?_eq_getElem hi⟩
  have hgn:(Bd kids.list)[i]? = some [.str p.1]:=by simp [Bd,hp]
  have hgp:=Hx hp
  have c1:((i:Int)<(kids.list.length:Int))=True:=eq_true (by omega)
  by_cases hn:p.1=name
  ·rw [Li hp hn h2]
   have hw:=hn
   skip
   (refine Ae hm _ _ _ ?_;simp only [go_sem,Nat.reduceLT,Nat.reduceEqDiff,↓reduceIte,reduceCtorEq,A9,c1,hgn,hw,wi1 (i:=i) (by omega)])
   (repeat' (first | (refine iteI (fun h=>?_) (fun h=>?_))|(refine Ak (by first | omega | (simp (disch:=omega) only [Aa,Ab,Ac] at *;omega)) ?_;intro b hb)|(refine And.intro (by first | omega | (simp (disch:=omega) only [Aa,Ab,Ac] at *;omega)) ?_)|((first | (refine Ah hm (by rfl) (by kernel_rfl) ?_)|(refine Det.use (Dy nm 6 s g e kids hv) ?_)|(refine Det.useQ (Dy nm 6 s g e kids hv) ?_));simp only [go_sem,Nat.reduceLT,Nat.reduceEqDiff,↓reduceIte,reduceCtorEq,hgp,wi1 (i:=i) (by omega)])|(exact True.intro)|(exfalso;omega)))
   all_goals rfl
  ·have hw:(p.1=name)=False:=eq_false hn
   (refine Ae hm _ _ _ ?_;simp only [go_sem,Nat.reduceLT,Nat.reduceEqDiff,↓reduceIte,reduceCtorEq,A9,c1,hgn,hw,wi1 (i:=i) (by omega)])
   (repeat' (first | (refine iteI (fun h=>?_) (fun h=>?_))|(refine Ak (by first | omega | (simp (disch:=omega) only [Aa,Ab,Ac] at *;omega)) ?_;intro b hb)|(refine And.intro (by first | omega | (simp (disch:=omega) only [Aa,Ab,Ac] at *;omega)) ?_)|((first | (refine Ah hm (by rfl) (by kernel_rfl) ?_));simp only [go_sem])|(exact True.intro)|(exfalso;omega)))
   exact ⟨i+1,⟨by omega,Jcm hp hn h2⟩,by omega,(St.le_slots (by simp only [Ap,Ar,Ao,Aj,Af,Nat.reduceEqDiff,reduceIte,Nat.reduceLT,Nat.reduceLeDiff];simp (disch:=omega) [Af,Ai,Au,Aa] <;> (repeat' apply And.intro) <;> omega) (by simp (disch:=omega) [Az,A3,Aw,Am,Af,Ai,Au,Aa]) (by simp [Ay]))⟩
theorem P2 (t:Tree) (x:Step) (hv:(t.enc []).length≤1000000) (hx:Bc x):Det cx 60 [.p (.sl (valL (t.enc []))),.p (.agg [.bool x.part,.str x.name,.int .i64 x.n])] [] (getR (inT t x)) []:=by
 cases t with
 | mk k s g e kids =>
 have hkv:kids.enc.length≤999999:=by rw [A6] at hv;simp at hv;omega
 have hll:=Forest.len_le kids
 have hkl:=Forest.list_len kids
 unfold Bc at hx
 cases hp:x.part
 ·by_cases hk:k=6
  ·subst hk
   rw [Tp hp]
   cases hf:Ch x.name kids.list with
   | none =>
    have hF:=Re [] s g e kids x.name hkv
    rw [hf] at hF
    unfold Oo at hF
    skip
    (refine Al.of_code (X:=cx) false [] (by simp) Tryz.func60 (by kernel_rfl) rfl (by simp only [List.length_cons,List.length_nil,Tryz.ntmps60];decide) (by simp) ?_;refine Ae hm _ _ _ ?_;simp only [Tryz.ntmps60,Tryz.results60,go_sem,Nat.reduceLT,Nat.reduceLeDiff,Nat.reduceEqDiff,Nat.reduceAdd,Nat.reduceSub,Nat.reduceMul,Nat.reduceBEq,Int.reduceToNat,Int.reduceLT,Int.reduceLE,Int.reduceEq,Int.reduceAdd,Int.reduceSub,Int.reduceNeg,↓reduceIte,reduceCtorEq,Cc])
    (repeat' (first | (refine iteI (fun h=>?_) (fun h=>?_))|(refine Ak (by first | omega | (simp (disch:=omega) only [Aa,Ab,Ac] at *;omega)) ?_;intro b hb)|(refine And.intro (by first | omega | (simp (disch:=omega) only [Aa,Ab,Ac] at *;omega)) ?_)|((first | (refine Ah hm (by rfl) (by kernel_rfl) ?_)|(refine Det.use (hF) ?_)|(refine Det.useQ (hF) ?_)|(refine Ag.use (hF) ?_)|(refine Ad.use (hF) ?_));simp only [go_sem,Nat.reduceLT,Nat.reduceEqDiff,↓reduceIte])|(exact True.intro)|(exfalso;omega)))
    all_goals rfl
   | some t =>
    have hF:=Re [] s g e kids x.name hkv
    rw [hf] at hF
    unfold Oo at hF
    (refine Al.of_code (X:=cx) false [] (by simp) Tryz.func60 (by kernel_rfl) rfl (by simp only [List.length_cons,List.length_nil,Tryz.ntmps60];decide) (by simp) ?_;refine Ae hm _ _ _ ?_;simp only [Tryz.ntmps60,Tryz.results60,go_sem,Nat.reduceLT,Nat.reduceLeDiff,Nat.reduceEqDiff,Nat.reduceAdd,Nat.reduceSub,Nat.reduceMul,Nat.reduceBEq,Int.reduceToNat,Int.reduceLT,Int.reduceLE,Int.reduceEq,Int.reduceAdd,Int.reduceSub,Int.reduceNeg,↓reduceIte,reduceCtorEq,Cc])
    (repeat' (first | (refine iteI (fun h=>?_) (fun h=>?_))|(refine Ak (by first | omega | (simp (disch:=omega) only [Aa,Ab,Ac] at *;omega)) ?_;intro b hb)|(refine And.intro (by first | omega | (simp (disch:=omega) only [Aa,Ab,Ac] at *;omega)) ?_)|((first | (refine Ah hm (by rfl) (by kernel_rfl) ?_)|(refine Det.use (hF) ?_)|(refine Det.useQ (hF) ?_)|(refine Ag.use (hF) ?_)|(refine Ad.use (hF) ?_));simp only [go_sem,Nat.reduceLT,Nat.reduceEqDiff,↓reduceIte])|(exact True.intro)|(exfalso;omega)))
    all_goals rfl
  ·rw [Iw hp hk]
   (refine Al.of_code (X:=cx) false [] (by simp) Tryz.func60 (by kernel_rfl) rfl (by simp only [List.length_cons,List.length_nil,Tryz.ntmps60];decide) (by simp) ?_;refine Ae hm _ _ _ ?_;simp only [Tryz.ntmps60,Tryz.results60,go_sem,Nat.reduceLT,Nat.reduceLeDiff,Nat.reduceEqDiff,Nat.reduceAdd,Nat.reduceSub,Nat.reduceMul,Nat.reduceBEq,Int.reduceToNat,Int.reduceLT,Int.reduceLE,Int.reduceEq,Int.reduceAdd,Int.reduceSub,Int.reduceNeg,↓reduceIte,reduceCtorEq,Cc])
   (repeat' (first | (refine iteI (fun h=>?_) (fun h=>?_))|(refine Ak (by first | omega | (simp (disch:=omega) only [Aa,Ab,Ac] at *;omega)) ?_;intro b hb)|(refine And.intro (by first | omega | (simp (disch:=omega) only [Aa,Ab,Ac] at *;omega)) ?_)|((first | (refine Ah hm (by rfl) (by kernel_rfl) ?_));simp only [go_sem])|(exact True.intro)|(exfalso;omega)))
   all_goals rfl
 ·rw [if_pos hp] at hx
  obtain ⟨n,hn⟩:∃ n:Nat,x.n=n:=⟨x.n.toNat,by omega⟩
  by_cases hk:k=5
  ·subst hk
   rw [Tm hp,hn]
   have hpt:((n:Int)).toNat=n:=rfl
   rw [hpt]
   have hPl:=A5 kids.list
   by_cases hlt:n<kids.len
   ·obtain ⟨p,hpk⟩:∃ p,kids.list[n]? = some p:=⟨_,List.getElem?_eq_getElem (by omega)⟩
    have hpg:=Hx hpk
    rw [hpk]
    skip
    (refine Al.of_code (X:=cx) false [] (by simp) Tryz.func60 (by kernel_rfl) rfl (by simp only [List.length_cons,List.length_nil,Tryz.ntmps60];decide) (by simp) ?_;refine Ae hm _ _ _ ?_;simp only [Tryz.ntmps60,Tryz.results60,go_sem,Nat.reduceLT,Nat.reduceLeDiff,Nat.reduceEqDiff,Nat.reduceAdd,Nat.reduceSub,Nat.reduceMul,Nat.reduceBEq,Int.reduceToNat,Int.reduceLT,Int.reduceLE,Int.reduceEq,Int.reduceAdd,Int.reduceSub,Int.reduceNeg,↓reduceIte,reduceCtorEq,Cc,hpg,hPl])
    (repeat' (first | (refine iteI (fun h=>?_) (fun h=>?_))|(refine Ak (by first | omega | (simp (disch:=omega) only [Aa,Ab,Ac] at *;omega)) ?_;intro b hb)|(refine And.intro (by first | omega | (simp (disch:=omega) only [Aa,Ab,Ac] at *;omega)) ?_)|((first | (refine Ah hm (by rfl) (by kernel_rfl) ?_)|(refine Det.use (Dy [] 5 s g e kids hkv) ?_)|(refine Det.useQ (Dy [] 5 s g e kids hkv) ?_));simp only [go_sem,Nat.reduceLT,Nat.reduceEqDiff,↓reduceIte,hpg,hPl])|(exact True.intro)|(exfalso;omega)))
    all_goals rfl
   ·rw [List.getElem?_eq_none (by omega)]
    have hpg:=hn
    (refine Al.of_code (X:=cx) false [] (by simp) Tryz.func60 (by kernel_rfl) rfl (by simp only [List.length_cons,List.length_nil,Tryz.ntmps60];decide) (by simp) ?_;refine Ae hm _ _ _ ?_;simp only [Tryz.ntmps60,Tryz.results60,go_sem,Nat.reduceLT,Nat.reduceLeDiff,Nat.reduceEqDiff,Nat.reduceAdd,Nat.reduceSub,Nat.reduceMul,Nat.reduceBEq,Int.reduceToNat,Int.reduceLT,Int.reduceLE,Int.reduceEq,Int.reduceAdd,Int.reduceSub,Int.reduceNeg,↓reduceIte,reduceCtorEq,Cc,hpg,hPl])
    (repeat' (first | (exfalso;omega)|(refine iteI (fun h=>?_) (fun h=>?_))|(refine Ak (by first | omega | (simp (disch:=omega) only [Aa,Ab,Ac] at *;omega)) ?_;intro b hb)|(refine And.intro (by first | omega | (simp (disch:=omega) only [Aa,Ab,Ac] at *;omega)) ?_)|((first | (refine Ah hm (by rfl) (by kernel_rfl) ?_)|(refine Det.use (Dy [] 5 s g e kids hkv) ?_)|(refine Det.useQ (Dy [] 5 s g e kids hkv) ?_));simp only [go_sem,Nat.reduceLT,Nat.reduceEqDiff,↓reduceIte,hPl])|(exact True.intro)|(exfalso;omega)))
    all_goals rfl
  ·rw [Iz hp hk,hn]
   have hpg:=hn
   have hPl:=hn
   (refine Al.of_code (X:=cx) false [] (by simp) Tryz.func60 (by kernel_rfl) rfl (by simp only [List.length_cons,List.length_nil,Tryz.ntmps60];decide) (by simp) ?_;refine Ae hm _ _ _ ?_;simp only [Tryz.ntmps60,Tryz.results60,go_sem,Nat.reduceLT,Nat.reduceLeDiff,Nat.reduceEqDiff,Nat.reduceAdd,Nat.reduceSub,Nat.reduceMul,Nat.reduceBEq,Int.reduceToNat,Int.reduceLT,Int.reduceLE,Int.reduceEq,Int.reduceAdd,Int.reduceSub,Int.reduceNeg,↓reduceIte,reduceCtorEq,Cc,hpg,hPl])
   (repeat' (first | (refine iteI (fun h=>?_) (fun h=>?_))|(refine Ak (by first | omega | (simp (disch:=omega) only [Aa,Ab,Ac] at *;omega)) ?_;intro b hb)|(refine And.intro (by first | omega | (simp (disch:=omega) only [Aa,Ab,Ac] at *;omega)) ?_)|((first | (refine Ah hm (by rfl) (by kernel_rfl) ?_));simp only [go_sem])|(exact True.intro)|(exfalso;omega)))
   all_goals rfl
theorem Jjv (p:List Step) (t:Tree) (hp:p.length≤1000000) (hok:∀ x∈p,Bc x) (hv:(t.enc []).length≤1000000):Det cx 25 [.p (.sl (Bb p)),.p (.sl (valL (t.enc [])))] [] (getR (getT p t)) []:=by
 skip
 (refine Al.of_code (X:=cx) false [] (by simp) Tryz.func25 (by kernel_rfl) rfl (by simp only [List.length_cons,List.length_nil,Tryz.ntmps25];decide) (by simp) ?_;refine Ae hm _ _ _ ?_;simp only [Tryz.ntmps25,Tryz.results25,go_sem,Nat.reduceLT,Nat.reduceLeDiff,Nat.reduceEqDiff,Nat.reduceAdd,Nat.reduceSub,Nat.reduceMul,Nat.reduceBEq,Int.reduceToNat,Int.reduceLT,Int.reduceLE,Int.reduceEq,Int.reduceAdd,Int.reduceSub,Int.reduceNeg,↓reduceIte,reduceCtorEq,Aq])
 refine SWP.loop (fun x:Nat×Tree=>⟨Ba 29 [(0,.p (.sl (Bb p))),(1,.p (.sl (valL (x.2.enc [])))),(6,.p (.int .i64 x.1))],[]⟩) (fun x=>x.1≤p.length∧(x.2.enc []).length≤1000000∧getT (p.drop x.1) x.2=getT p t) (fun x=>p.length - x.1) (0,t) (St.le_slots (by simp only [Ap,Ar,Ao,Aj,Af,Nat.reduceEqDiff,reduceIte,Nat.reduceLT,Nat.reduceLeDiff];simp (disch:=omega) [Af,Ai,Au,Aa] <;> (repeat' apply And.intro) <;> omega) (by simp (disch:=omega) [Az,A3,Aw,Am,Af,Ai,Au,Aa]) (by simp [Ay])) ⟨Nat.zero_le _,hv,rfl⟩ ?_
 rintro ⟨i,u⟩ ⟨h1,h2,h3⟩
 simp only at h1 h2 h3
 by_cases hi:¬ i<p.length
 ·have c1:((i:Int)<(p.length:Int))=False:=eq_false (by omega)
  rw [show p.drop i=[] from List.drop_eq_nil_of_le (by omega),getT] at h3
  skip
  (refine Ae hm _ _ _ ?_;simp only [go_sem,Nat.reduceLT,Nat.reduceEqDiff,↓reduceIte,reduceCtorEq,Aq,c1])
  (repeat' (first | (refine iteI (fun h=>?_) (fun h=>?_))|(refine Ak (by first | omega | (simp (disch:=omega) only [Aa,Ab,Ac] at *;omega)) ?_;intro b hb)|(refine And.intro (by first | omega | (simp (disch:=omega) only [Aa,Ab,Ac] at *;omega)) ?_)|((first | (refine Ah hm (by rfl) (by kernel_rfl) ?_));simp only [go_sem])|(exact True.intro)|(exfalso;omega)))
  rw [← h3];rfl
 ·have hi:=Decidable.not_not.1 hi
  obtain ⟨x,hx⟩:∃ x,p[i]? = some x:=⟨_,List.getElem?_eq_getElem hi⟩
  have hgx:=Dk hx
  have hdx:p.drop i=x :: p.drop (i+1):=by rw [List.drop_eq_getElem_cons hi];congr 1;rw [List.getElem?_eq_getElem hi] at hx;exact Option.some.inj hx
  have hok':=hok x (List.mem_of_getElem? hx)
  rw [hdx,getT] at h3
  have hin:=P2 u x h2 hok'
  have c1:((i:Int)<(p.length:Int))=True:=eq_true (by omega)
  cases hu:inT u x with
  | error er =>
   rw [hu] at hin h3
   unfold getR at hin
   skip
   (refine Ae hm _ _ _ ?_;simp only [go_sem,Nat.reduceLT,Nat.reduceLeDiff,Nat.reduceEqDiff,Nat.reduceAdd,↓reduceIte,reduceCtorEq,Aq,c1,hgx,wi1 (i:=i) (by omega)])
   (repeat' (first | (refine iteI (fun h=>?_) (fun h=>?_))|(refine Ak (by first | omega | (simp (disch:=omega) only [Aa,Ab,Ac] at *;omega)) ?_;intro b hb)|(refine And.intro (by first | omega | (simp (disch:=omega) only [Aa,Ab,Ac] at *;omega)) ?_)|((first | (refine Ah hm (by rfl) (by kernel_rfl) ?_)|(refine Det.use (hin) ?_)|(refine Det.useQ (hin) ?_)|(refine Ag.use (hin) ?_)|(refine Ad.use (hin) ?_));simp only [go_sem,Nat.reduceLT,Nat.reduceEqDiff,↓reduceIte,reduceCtorEq,wi1 (i:=i) (by omega)])|(exact True.intro)|(exfalso;omega)))
   ·rw [← h3];rfl
   ·have:=M2 hu;omega
  | ok w =>
   rw [hu] at hin h3
   unfold getR at hin
   have hle:=Q7 hu
   (refine Ae hm _ _ _ ?_;simp only [go_sem,Nat.reduceLT,Nat.reduceLeDiff,Nat.reduceEqDiff,Nat.reduceAdd,↓reduceIte,reduceCtorEq,Aq,c1,hgx,wi1 (i:=i) (by omega)])
   (repeat' (first | (refine iteI (fun h=>?_) (fun h=>?_))|(refine Ak (by first | omega | (simp (disch:=omega) only [Aa,Ab,Ac] at *;omega)) ?_;intro b hb)|(refine And.intro (by first | omega | (simp (disch:=omega) only [Aa,Ab,Ac] at *;omega)) ?_)|((first | (refine Ah hm (by rfl) (by kernel_rfl) ?_)|(refine Det.use (hin) ?_)|(refine Det.useQ (hin) ?_)|(refine Ag.use (hin) ?_)|(refine Ad.use (hin) ?_));simp only [go_sem,Nat.reduceLT,Nat.reduceEqDiff,↓reduceIte,reduceCtorEq,wi1 (i:=i) (by omega)])|(exact True.intro)|(exfalso;omega)))
   exact ⟨(i+1,w),⟨by simp only;omega,by simp only;omega,h3⟩,by simp only;omega,(St.le_slots (by simp only [Ap,Ar,Ao,Aj,Af,Nat.reduceEqDiff,reduceIte,Nat.reduceLT,Nat.reduceLeDiff];simp (disch:=omega) [Af,Ai,Au,Aa] <;> (repeat' apply And.intro) <;> omega) (by simp (disch:=omega) [Az,A3,Aw,Am,Af,Ai,Au,Aa]) (by simp [Ay]))⟩
theorem Zk:∀ (p q:List Step) (t:Tree),getT (p ++ q) t=match getT p t with
  | .ok u=>getT q u
  | .error e=>.error e
 | [],q,t=>rfl
 | x :: p,q,t=>by
  rw [List.cons_append,getT,getT]
  cases inT t x with
  | ok u=>exact Zk p q u
  | error e=>rfl
end Go.LX
namespace Go.LX
open Go Go.RowKit Go.Proofs
section
variable {X:Cx} {ro:Option Nat} {c:Code} {Q:Ex→St→Prop}
theorem SWP.spare {s:St} {d:Nat} {T:TypeId} {es:List (List PV)} (hd:Am d s.regs=some (.row T 1 es)) (h0:0<es.length)
  (h:∀ k,SWP X ro c Q { s with regs:=Bs d (.lrow T 1 true (es.map (List.map L.p) ++ List.replicate k [L.junk])) s.regs }):SWP X ro c Q s:=by
 intro Γ a w hG ⟨ms,hdef,β,Im,hx⟩
 have hmem:=Ax hd
 rcases hx.fit.regs d _ hmem with ⟨_,rfl⟩ | ⟨loc,cur,hβ,hlz,hbk,hcl,hle,hml,hel,hcell⟩
 ·simp at h0
 refine h (loc.tot - es.length) Γ a w hG ⟨ms,hdef,β,Im,hx.store hmem hβ rfl rfl rfl rfl (fun _ _=>rfl) (.inr ?_)⟩
 have hll:(es.map (List.map L.p) ++ List.replicate (loc.tot - es.length) [L.junk]).length=loc.tot:=by simp;omega
 refine ⟨loc,cur,hβ,hlz,hbk,hcl,by rw [hll];exact Nat.le_refl _,fun _=>hll,hml,fun e he=>?_,fun i e j l hi hj=>?_⟩
 ·rcases List.mem_append.1 he with he | he
  ·obtain ⟨q,hq,rfl⟩:=List.mem_map.1 he
   rw [List.length_map];exact (hel q hq).1
  ·rw [List.eq_of_mem_replicate he];rfl
 ·by_cases hlt:i<es.length
  ·rw [List.getElem?_append_left (by simpa using hlt),List.getElem?_map] at hi
   obtain ⟨q,hq,rfl⟩:=Option.map_eq_some_iff.1 hi
   rw [List.getElem?_map] at hj
   obtain ⟨p,hp,rfl⟩:=Option.map_eq_some_iff.1 hj
   obtain ⟨v,hv,hr⟩:=hcell i q j p hq hp
   exact ⟨v,hv,hr,.inl ((hel q (List.mem_of_getElem? hq)).2 p (List.mem_of_getElem? hp))⟩
  ·rw [List.getElem?_append_right (by simpa using hlt)] at hi
   simp only [List.length_map] at hi
   obtain ⟨hi1,rfl⟩:=List.getElem?_eq_some_iff.1 hi
   simp only [List.length_replicate] at hi1
   simp only [List.getElem_replicate] at hj
   have hj0:j=0:=by have:=(List.getElem?_eq_some_iff.1 hj).1;simp at this;exact this
   subst hj0
   simp at hj
   subst hj
   have hc:i * 1+0<cur.length:=by rw [hcl];omega
   exact ⟨_,List.getElem?_eq_getElem hc,trivial,.inr rfl⟩
theorem SWP.trunc {s:St} {d:Nat} {T:TypeId} {f:Bool} {ls:List (List L)} {es:List (List PV)} (n:Nat) (hd:Am d s.regs=some (.lrow T 1 f ls)) (hp:Cb (ls.take n)=some es)
  (h:SWP X ro c Q { s with regs:=Bs d (.row T 1 es) s.regs }):SWP X ro c Q s:=by
 intro Γ a w hG ⟨ms,hdef,β,Im,hx⟩
 have hmem:=Ax hd
 obtain ⟨pl,pp⟩:=Dh hp
 by_cases hβ:∃ loc,β d=some loc
 ·obtain ⟨loc,hβ⟩:=hβ
  refine h Γ a w hG ⟨ms,hdef,β,Im,hx.store hmem hβ rfl rfl rfl rfl (fun _ _=>rfl) ?_⟩
  rcases hx.fit.regs d _ hmem with ⟨hn,rfl⟩ | ⟨loc',cur,hβ',hlz,hbk,hcl,hle,hfu,hml,hel,hcell⟩
  ·rw [hβ] at hn;cases hn
  ·rw [hβ] at hβ';cases hβ'
   have key:∀ (i:Nat) (q:List PV),es[i]? = some q→∃ e,ls[i]? = some e∧e.length=q.length∧∀ (j:Nat) (p:PV),q[j]? = some p→e[j]? = some (.p p):=by
    intro i q hq
    obtain ⟨e,he,ha⟩:=pp i q hq
    have he':ls[i]? = some e:=by
     rw [List.getElem?_take] at he
     split at he
     ·exact he
     ·cases he
    obtain ⟨al,ag⟩:=Bh ha
    refine ⟨e,he',al,fun j p hj=>?_⟩
    obtain ⟨l,hl'⟩:=getElem?_of_length al hj
    have h1:=ag j l p hl' hj
    cases l <;> simp [L.pure?] at h1
    subst h1
    exact hl'
   refine .inr ⟨loc,cur,hβ,hlz,hbk,hcl,by rw [← pl,List.length_take];omega,hml,fun q hq=>?_,fun i q j p hi hj=>?_⟩
   ·obtain ⟨i,hi,rfl⟩:=List.getElem_of_mem hq
    obtain ⟨e,he,h1,h2⟩:=key i _ (List.getElem?_eq_getElem hi)
    refine ⟨by rw [← h1];exact hel e (List.mem_of_getElem? he),fun p hp=>?_⟩
    obtain ⟨j,hj,rfl⟩:=List.getElem_of_mem hp
    obtain ⟨v,_,_,hco⟩:=hcell i e j _ he (h2 j _ (List.getElem?_eq_getElem hj))
    rcases hco with hco | hco
    ·exact hco
    ·cases hco
   ·obtain ⟨e,he,h1,h2⟩:=key i q hi
    obtain ⟨v,hv,hr,_⟩:=hcell i e j _ he (h2 j p hj)
    exact ⟨v,hv,hr⟩
 ·have hn:β d=none:=by
   cases hb:β d with
   | none=>rfl
   | some loc=>exact absurd ⟨loc,hb⟩ hβ
  have hls:ls=[]:=by
   rcases hx.fit.regs d _ hmem with ⟨_,h⟩ | ⟨loc',cur,hβ',_⟩
   ·exact h
   ·rw [hn] at hβ';cases hβ'
  subst hls
  have:es=[]:=List.eq_nil_of_length_eq_zero (by simpa using pl.symm)
  subst this
  have hf:=hx.fit
  refine h Γ a w hG ⟨ms,hdef,β,Im,{ hx with fit:={ hf with regs:=fun e q hq=>?_,nodup:=by simp only [Kd];exact hf.nodup,live:=fun e q loc hq hl=>?_,apart:=fun e q e' q' l1 l2 hq hq' hne h1 h2=>?_ },regnew:=fun e q loc hq hl=>?_,marks:=fun D hD=>?_ }⟩
  all_goals
   have key:∀ e q,(e,q)∈Bs d (.row T 1 []) s.regs→∃ q',(e,q')∈s.regs:=by
    intro e q hq
    rcases Ds hf.nodup hq with ⟨rfl,rfl,q',hq'⟩ | ⟨hne,hm⟩
    ·exact ⟨q',hq'⟩
    ·exact ⟨q,hm⟩
  ·rcases Ds hf.nodup hq with ⟨rfl,rfl,_⟩ | ⟨hne,hm⟩
   ·exact .inl ⟨hn,rfl⟩
   ·exact hf.regs e q hm
  ·obtain ⟨q',hq'⟩:=key e q hq;exact hf.live e q' loc hq' hl
  ·obtain ⟨p1,hp1⟩:=key e q hq;obtain ⟨p2,hp2⟩:=key e' q' hq';exact hf.apart e p1 e' p2 l1 l2 hp1 hp2 hne h1 h2
  ·obtain ⟨q',hq'⟩:=key e q hq;exact hx.regnew e q' loc hq' hl
  ·obtain ⟨m1,m2,m3,m4⟩:=hx.marks D hD
   exact ⟨m1,m2,m3,fun e q loc hq hl=>by obtain ⟨q',hq'⟩:=key e q hq;exact m4 e q' loc hq' hl⟩
theorem Jq:∀ es:List (List PV),Cb (es.map (List.map L.p))=some es
 | []=>rfl
 | e :: es=>by
  have h:∀ e:List PV,Bg L.pure? (e.map L.p)=some e:=by
   intro e
   induction e with
   | nil=>rfl
   | cons p e ih=>simp only [List.map_cons,Bg,L.pure?,ih]
  simp only [List.map_cons,Cb,h,Jq es]
theorem Gd {es:List (List PV)} {r:List (List L)} {n:Nat} (h:n≤es.length):Cb ((es.map (List.map L.p) ++ r).take n)=some (es.take n):=by
 rw [List.take_append_of_le_length (by simpa using h),← List.map_take,Jq]
theorem Me {es:List (List PV)} {r:List (List L)} {o n:Nat} (h:o+n≤es.length):Cb (((es.map (List.map L.p) ++ r).drop o).take n)=some ((es.drop o).take n):=by
 rw [List.drop_append_of_le_length (by simp;omega),List.take_append_of_le_length (by simp;omega),← List.map_drop,← List.map_take,Jq]
end
end Go.LX
namespace Go.LX
open Go Go.RowKit Go.Proofs
theorem W9 {X:Cx} {f:FuncId} {fn:Func} {tS tR e:TypeId} (hf:X.P.funcs[f]? = some fn) (hname:(fn.name == "runtime.NumGoroutine")=false) (hb:fn.body.isNone=true) (hn:Extern.findNext fn=none)
  (he:Extern.find fn=some (Extern.SlicesOverlaps.overlaps #[tS,tS] #[tR])) (ht:slE X.P tS=some (e,1)) {rs:Regs} {d1 o1 n1 d2 o2 n2:Nat} {T1 T2:TypeId} {es1:List (List PV)} {f2:Bool} {es2:List (List L)}
  (h1:Am d1 rs=some (.row T1 1 es1)) (h2:Am d2 rs=some (.lrow T2 1 f2 es2)) (hne:d1≠d2) (hp1:0<es1.length) (hp2:0<es2.length):Ad X f [.own d1 o1 n1,.own d2 o2 n2] rs (.p (.bool false)):=by
 intro β Im w vs hfit
 obtain ⟨v,u,rfl,r1,r2⟩:=fit2 hfit
 have m1:=Ax h1
 have m2:=Ax h2
 obtain ⟨ht0,hcs,h0⟩:=Dw ht
 rcases hfit.regs d1 _ m1 with ⟨_,rfl⟩ | ⟨l1,c1,b1,z1,k1,q1,y1,-⟩
 ·simp at hp1
 rcases hfit.regs d2 _ m2 with ⟨_,rfl⟩ | ⟨l2,c2,b2,z2,k2,q2,y2,-⟩
 ·simp at hp2
 rcases r1 with ⟨l1',cap1,a1,b1',_,_,_,rfl⟩ | ⟨hn1,_⟩
 rotate_left
 ·rw [b1] at hn1;cases hn1
 rcases r2 with ⟨l2',cap2,a2,b2',_,_,_,rfl⟩ | ⟨hn2,_⟩
 rotate_left
 ·rw [b2] at hn2;cases hn2
 rw [b1] at b1';cases b1'
 rw [b2] at b2';cases b2'
 have hap:=hfit.apart d1 _ d2 _ l1 l2 m1 m2 hne b1 b2
 refine ⟨.bool false,?_,PRep.bool _⟩
 rw [run_callFunc_extern hf hname hb hn he,
  Lib.run_overlaps_apart w tS tR e ht0 1 (fun w=>Bk (P:=X.P) hcs (by decide) w) ⟨l1.blk,a1,none⟩ ⟨l2.blk,a2,none⟩ n1 cap1 n2 cap2 hap T1 T2 c1.length c2.length (by simp [World.shape?,k1]) (by simp [World.shape?,k2]) (by omega) (by simp [World.frozen?,k1]) (by simp [World.frozen?,k1])]
 rfl
theorem Al.trunc {X:Cx} {f:FuncId} {args:List L} {rs rest:Regs} {l:L} {T:TypeId} {es:List (List PV)} (n:Nat)
  (h:Al X f args rs fun m q=>m=l∧(q=(900,.row T 1 es) :: rest∨∃ b ls,q=(900,.lrow T 1 b ls) :: rest∧Cb (ls.take n)=some es)):Det X f args rs l ((900,.row T 1 es) :: rest):=by
 refine ⟨h.1,fun β Im w vs hg hf=>(h.2 β Im w vs hg hf).mono fun e w' ⟨v,m,rs',β',Im',he,⟨hm,hq⟩,hr,hc⟩=>?_⟩
 rcases hq with rfl | ⟨b,ls,rfl,hp⟩
 ·exact ⟨v,m,_,β',Im',he,⟨hm,rfl⟩,hr,hc⟩
 ·refine ⟨v,m,_,β',Im',he,⟨hm,rfl⟩,hr,?_⟩
  obtain ⟨pl,pp⟩:=Dh hp
  have hf':=hc.fit
  have key:∀ d r,(d,r)∈(900,Reg.row T 1 es) :: rest→∃ r',(d,r')∈(900,Reg.lrow T 1 b ls) :: rest:=by
   intro d r hd
   rcases List.mem_cons.1 hd with hd | hd
   ·cases hd;exact ⟨_,List.mem_cons_self⟩
   ·exact ⟨r,List.mem_cons_of_mem _ hd⟩
  have hreg:Ci β' w' Im' 900 (.row T 1 es):=by
   rcases hf'.regs 900 _ List.mem_cons_self with ⟨hn,rfl⟩ | ⟨loc,cur,hβ,hlz,hbk,hcl,hle,hfu,hml,hel,hcell⟩
   ·refine .inl ⟨hn,List.eq_nil_of_length_eq_zero (by simpa using pl.symm)⟩
   ·have key:∀ (i:Nat) (q:List PV),es[i]? = some q→∃ e,ls[i]? = some e∧e.length=q.length∧∀ (j:Nat) (p:PV),q[j]? = some p→e[j]? = some (.p p):=by
     intro i q hq
     obtain ⟨e,he,ha⟩:=pp i q hq
     have he':ls[i]? = some e:=by
      rw [List.getElem?_take] at he
      split at he
      ·exact he
      ·cases he
     obtain ⟨al,ag⟩:=Bh ha
     refine ⟨e,he',al,fun j p hj=>?_⟩
     obtain ⟨l,hl'⟩:=getElem?_of_length al hj
     have h1:=ag j l p hl' hj
     cases l <;> simp [L.pure?] at h1
     subst h1
     exact hl'
    refine .inr ⟨loc,cur,hβ,hlz,hbk,hcl,by rw [← pl,List.length_take];omega,hml,fun q hq=>?_,fun i q j p hi hj=>?_⟩
    ·obtain ⟨i,hi,rfl⟩:=List.getElem_of_mem hq
     obtain ⟨e,he,h1,h2⟩:=key i _ (List.getElem?_eq_getElem hi)
     refine ⟨by rw [← h1];exact hel e (List.mem_of_getElem? he),fun p hp=>?_⟩
     obtain ⟨j,hj,rfl⟩:=List.getElem_of_mem hp
     obtain ⟨v,_,_,hco⟩:=hcell i e j _ he (h2 j _ (List.getElem?_eq_getElem hj))
     rcases hco with hco | hco
     ·exact hco
     ·cases hco
    ·obtain ⟨e,he,h1,h2⟩:=key i q hi
     obtain ⟨v,hv,hr,_⟩:=hcell i e j _ he (h2 j p hj)
     exact ⟨v,hv,hr⟩
  refine { hc with keys:=fun d r hd=>(key d r hd).elim fun r' h'=>hc.keys d r' h',regnew:=fun d r loc hd hl=>(key d r hd).elim fun r' h'=>hc.regnew d r' loc h' hl,fit:={ size:=hf'.size,tmps:=hf'.tmps,im:=hf'.im,regs:=fun d r hd=>?_,nodup:=hf'.nodup,live:=fun d r loc hd hl=>(key d r hd).elim fun r' h'=>hf'.live d r' loc h' hl,apart:=fun d r d' r' l1 l2 hd hd' hne h1 h2=>(key d r hd).elim fun r1 h1'=>(key d' r' hd').elim fun r2 h2'=>hf'.apart d r1 d' r2 l1 l2 h1' h2' hne h1 h2 } }
  rcases List.mem_cons.1 hd with hd | hd
  ·cases hd;exact hreg
  ·exact hf'.regs d r (List.mem_cons_of_mem _ hd)
theorem Al.sub {X:Cx} {f:FuncId} {args:List L} {rs:Regs} {Post Post':L→Regs→Prop} (h:Al X f args rs Post) (hp:∀ m q,Post m q→∃ q0,q0.Sublist q∧Post' m q0):Al X f args rs Post':=by
 refine ⟨h.1,fun β Im w vs hg hf=>(h.2 β Im w vs hg hf).mono fun e w' ⟨v,m,rs',β',Im',he,hP,hr,hc⟩=>?_⟩
 obtain ⟨q0,hs,hP'⟩:=hp m rs' hP
 have hf':=hc.fit
 have key:∀ d r,(d,r)∈q0→(d,r)∈rs':=fun d r hd=>hs.subset hd
 exact ⟨v,m,q0,β',Im',he,hP',hr,{ hc with keys:=fun d r hd=>hc.keys d r (key d r hd),regnew:=fun d r loc hd hl=>hc.regnew d r loc (key d r hd) hl,fit:={ size:=hf'.size,tmps:=hf'.tmps,im:=hf'.im,regs:=fun d r hd=>hf'.regs d r (key d r hd),nodup:=hf'.nodup.sublist (hs.map _),live:=fun d r loc hd hl=>hf'.live d r loc (key d r hd) hl,apart:=fun d r d' r' l1 l2 hd hd' hne h1 h2=>hf'.apart d r d' r' l1 l2 (key d r hd) (key d' r' hd') hne h1 h2 } }⟩
theorem Kj {f:L→L} (hp:∀ p,f (.p p)=.p p) (hj:f .junk=.junk) (es:List (List PV)) (k:Nat):List.map (fun e=>List.map f e) (es.map (List.map L.p) ++ List.replicate k [L.junk])=es.map (List.map L.p) ++ List.replicate k [L.junk]:=by
 rw [List.map_append,List.map_map,List.map_replicate]
 have h1:(fun e=>List.map f e) ∘ List.map L.p=List.map L.p:=by
  funext e
  simp only [Function.comp,List.map_map]
  congr 1
  funext p
  exact hp p
 rw [h1]
 simp [hj]
theorem Z8 {es:List (List PV)} {i k:Nat} (hi:i<es.length) (hk:k≠0) :
  (es.map (List.map L.p) ++ List.replicate k [L.junk]).take (i+1) ++ (es.drop i).map (List.map L.p) ++ (es.map (List.map L.p) ++ List.replicate k [L.junk]).drop (i+1+(es.length - i))=(es.take (i+1) ++ es.drop i).map (List.map L.p) ++ List.replicate (k - 1) [L.junk]:=by
 rw [List.take_append_of_le_length (by simp;omega),show i+1+(es.length - i)=(es.map (List.map L.p)).length+1 by simp;omega,List.drop_append,List.drop_eq_nil_of_le (show (es.map (List.map L.p)).length≤(es.map (List.map L.p)).length+1 by omega),List.nil_append,List.drop_replicate,List.map_append,List.map_take]
 congr 2;simp
theorem Xp {es:List (List PV)} {i k:Nat} {q:List PV} (hi:i<es.length) :
  ((es.take (i+1) ++ es.drop i).map (List.map L.p) ++ List.replicate k [L.junk]).take i ++ [q.map L.p] ++ ((es.take (i+1) ++ es.drop i).map (List.map L.p) ++ List.replicate k [L.junk]).drop (i+1)=(es.take i ++ [q] ++ es.drop i).map (List.map L.p) ++ List.replicate k [L.junk]:=by
 rw [List.take_append_of_le_length (by simp;omega),List.drop_append_of_le_length (by simp;omega),← List.map_take,← List.map_drop,List.take_append_of_le_length (by simp;omega),List.drop_append_of_le_length (by simp;omega),List.take_take,List.drop_eq_nil_of_le (show (es.take (i+1)).length≤i+1 by simp;omega),Nat.min_eq_left (by omega)]
 simp
def isSl:Option TypeDesc→Prop
 | some (.slice _)=>True
 | _=>False
theorem Hi {e:TypeId}:isSl (some (.slice e))=True:=(rfl)
def capR (off:Nat) (K:L→Prop):Option Reg→Prop
 | some (.lrow _ _ true es)=>K (.p (.int .i64 (es.length - off:Nat)))
 | _=>False
def capV (regs:Regs) (K:L→Prop):L→Prop
 | .p .snil=>K (.p (.int .i64 0))
 | .own d off _=>capR off K (Am d regs)
 | _=>False
theorem K9 {P:Program} {r:Regs} {t:List L} {o:Operand} {ty:TypeId} {K:L→Prop}:lqvK P r ⟨t,r⟩ (.call { callee:=.builtin .cap,args:=#[o],argTypes:=#[ty] }) K=(isSl (P.underlying ty)∧capV r K ((St.mk t r).get o)):=by
 have h1:(∃ e,P.underlying ty=some (.slice e)) ↔ isSl (P.underlying ty):=by
  unfold isSl
  split
  ·rename_i e h;exact ⟨fun _=>trivial,fun _=>⟨e,h⟩⟩
  ·rename_i h;exact ⟨fun ⟨k,hk⟩=>h k hk,fun h=>h.elim⟩
 unfold lqvK lqv
 simp only [h1]
 apply pe
 constructor
 ·rintro ⟨l,⟨h,h'⟩,hK⟩
  refine ⟨h,?_⟩
  split at h'
  ·rename_i hg;rw [hg];subst h';exact hK
  ·rename_i d off n hg
   rw [hg]
   show capR off K (Am d r)
   split at h'
   ·rename_i T sz es hr;rw [hr];subst h';exact hK
   ·exact h'.elim
  ·exact h'.elim
 ·rintro ⟨h,hK⟩
  unfold capV at hK
  split at hK
  ·rename_i hg;rw [hg];exact ⟨_,⟨h,rfl⟩,hK⟩
  ·rename_i d off n hg
   rw [hg]
   unfold capR at hK
   split at hK
   ·rename_i T sz es hr;simp only [hr];exact ⟨_,⟨h,rfl⟩,hK⟩
   ·exact hK.elim
  ·exact hK.elim
theorem Hf {r:Regs} {K:L→Prop} {d off n:Nat}:capV r K (.own d off n)=capR off K (Am d r):=(rfl)
theorem Kc {off:Nat} {K:L→Prop} {T sz:Nat} {es:List (List L)}:capR off K (some (.lrow T sz true es))=K (.p (.int .i64 (es.length - off:Nat))):=(rfl)
end Go.LX
set_option maxRecDepth 100000
set_option maxHeartbeats 2000000
namespace Go.LX
open Go Go.RowKit Go.Proofs
attribute [local irreducible] Al SWP Bi
def Cq (x:List UInt8):List (List UInt8)→Nat
 | []=>0
 | s :: l=>if Op.bytesLess s x=true then Cq x l+1 else 0
theorem Qt (x:List UInt8):∀ l,Cq x l≤l.length
 | []=>Nat.le_refl _
 | s :: l=>by have:=Qt x l;simp only [Cq,List.length_cons];split <;> omega
theorem Zr {x:List UInt8}:∀ {l:List (List UInt8)} {k:Nat} {s:List UInt8},k<Cq x l→l[k]? = some s→Op.bytesLess s x=true
 | [],_,_,h,_=>by simp [Cq] at h
 | t :: l,k,s,h,hk=>by
  simp only [Cq] at h
  split at h
  ·cases k with
   | zero=>simp at hk;subst hk;assumption
   | succ k=>exact Zr (l:=l) (k:=k) (by omega) (by simpa using hk)
  ·omega
theorem Wz {x:List UInt8}:∀ {l:List (List UInt8)} {s:List UInt8},l[Cq x l]? = some s→Op.bytesLess s x=false
 | [],_,h=>by simp at h
 | t :: l,s,h=>by
  simp only [Cq] at h
  split at h
  ·exact Wz (l:=l) (by simpa using h)
  ·rename_i h1
   simp only [List.getElem?_cons_zero,Option.some.injEq] at h
   subst h
   exact Bool.not_eq_true _ ▸ h1
def Mono (x:List UInt8) (l:List (List UInt8)):Prop:=∀ (i j:Nat) (s t:List UInt8),i≤j→l[i]? = some s→l[j]? = some t→Op.bytesLess t x=true→Op.bytesLess s x=true
theorem Jel {x:List UInt8} {l:List (List UInt8)} (hmo:Mono x l) {k:Nat} {s:List UInt8} (hk:l[k]? = some s):(Op.bytesLess s x=true ↔ k<Cq x l):=by
 constructor
 ·intro h
  by_cases hlt:k<Cq x l
  ·exact hlt
  ·have hkl:=(List.getElem?_eq_some_iff.1 hk).1
   obtain ⟨t,ht⟩:∃ t,l[Cq x l]? = some t:=⟨_,List.getElem?_eq_getElem (show Cq x l<l.length from Nat.lt_of_le_of_lt (Nat.le_of_not_lt hlt) hkl)⟩
   have:=hmo (Cq x l) k t s (by omega) ht hk h
   rw [Wz ht] at this;cases this
 ·exact fun h=>Zr h hk
def strL (l:List (List UInt8)):List (List PV):=l.map fun s=>[.str s]
def Mo (x:List UInt8) (l:List (List UInt8)):Bool:=match l[Cq x l]? with
 | some s=>s == x
 | none=>false
theorem half {i j:Nat} (h:i+j≤2000000):IntKind.i64.wrap ((IntKind.u64.wrap (IntKind.i64.wrap ((i:Int)+(j:Int)))).fdiv (2 ^ min 1 (B0 .u64)))=(((i+j) / 2:Nat):Int):=by
 have e:(((i+j:Nat):Int)).fdiv (2 ^ min 1 (B0 .u64))=(((i+j) / 2:Nat):Int):=by
  rw [show min 1 (B0 .u64)=1 by decide,Int.fdiv_eq_ediv_of_nonneg _ (by decide)];simp
 rw [Aa (n:=(i:Int)+j) (by omega) (by omega),show ((i:Int)+(j:Int))=((i+j:Nat):Int) by omega,Mf (n:=((i+j:Nat):Int)) (by omega) (by omega)]
 rw [e,Aa (by omega) (by omega)]
theorem Jdr (a:List UInt8):Det cx 235 [.p (.str a)] [] (.p (.bool false)) []:=by
 (refine Al.of_code (X:=cx) false [] (by simp) Tryz.func235 (by kernel_rfl) rfl (by simp only [List.length_cons,List.length_nil,Tryz.ntmps235];decide) (by simp) ?_;refine Ae hm _ _ _ ?_;simp only [Tryz.ntmps235,Tryz.results235,go_sem,Nat.reduceLT,Nat.reduceLeDiff,Nat.reduceEqDiff,Nat.reduceAdd,Nat.reduceSub,Nat.reduceMul,Nat.reduceBEq,Int.reduceToNat,Int.reduceLT,Int.reduceLE,Int.reduceEq,Int.reduceAdd,Int.reduceSub,Int.reduceNeg,↓reduceIte,reduceCtorEq])
theorem Mt (a:List UInt8):Det cx 192 [.p (.str a)] [] (.p (.bool false)) []:=by
 (refine Al.of_code (X:=cx) false [] (by simp) Tryz.func192 (by kernel_rfl) rfl (by simp only [List.length_cons,List.length_nil,Tryz.ntmps192];decide) (by simp) ?_;refine Ae hm _ _ _ ?_;simp only [Tryz.ntmps192,Tryz.results192,go_sem,Nat.reduceLT,Nat.reduceLeDiff,Nat.reduceEqDiff,Nat.reduceAdd,Nat.reduceSub,Nat.reduceMul,Nat.reduceBEq,Int.reduceToNat,Int.reduceLT,Int.reduceLE,Int.reduceEq,Int.reduceAdd,Int.reduceSub,Int.reduceNeg,↓reduceIte,reduceCtorEq])
theorem Jh8 (a b:List UInt8):Det cx 191 [.p (.str a),.p (.str b)] [] (.p (.bool (Op.bytesLess a b))) []:=by
 (refine Al.of_code (X:=cx) false [] (by simp) Tryz.func191 (by kernel_rfl) rfl (by simp only [List.length_cons,List.length_nil,Tryz.ntmps191];decide) (by simp) ?_;refine Ae hm _ _ _ ?_;simp only [Tryz.ntmps191,Tryz.results191,go_sem,Nat.reduceLT,Nat.reduceLeDiff,Nat.reduceEqDiff,Nat.reduceAdd,Nat.reduceSub,Nat.reduceMul,Nat.reduceBEq,Int.reduceToNat,Int.reduceLT,Int.reduceLE,Int.reduceEq,Int.reduceAdd,Int.reduceSub,Int.reduceNeg,↓reduceIte,reduceCtorEq])
 (repeat' (first | (refine iteI (fun h=>?_) (fun h=>?_))|(refine Ak (by first | omega | (simp (disch:=omega) only [Aa,Ab,Ac] at *;omega)) ?_;intro b hb)|(refine And.intro (by first | omega | (simp (disch:=omega) only [Aa,Ab,Ac] at *;omega)) ?_)|((first | (refine Ah hm (by rfl) (by kernel_rfl) ?_)|(refine Det.use (Jdr a) ?_)|(refine Det.useQ (Jdr a) ?_));simp only [go_sem,Nat.reduceLT,Nat.reduceEqDiff,↓reduceIte,reduceCtorEq])|(exact True.intro)|(exfalso;omega)))
theorem Jmd (x:List UInt8) (l:List (List UInt8)) (hmo:Mono x l) (hn:l.length≤1000000):Det cx 125 [.own 1000 0 l.length,.p (.str x)] [(1000,.row 9 1 (strL l))] (.tup [.int .i64 (Cq x l),.bool (Mo x l)]) [(1000,.row 9 1 (strL l))]:=by
 have hpl:=Qt x l
 (refine Al.of_code (X:=cx) false [] (by simp) Tryz.func125 (by kernel_rfl) rfl (by simp only [List.length_cons,List.length_nil,Tryz.ntmps125];decide) (by simp) ?_;refine Ae hm _ _ _ ?_;simp only [Tryz.ntmps125,Tryz.results125,go_sem,Nat.reduceLT,Nat.reduceLeDiff,Nat.reduceEqDiff,Nat.reduceAdd,Nat.reduceSub,Nat.reduceMul,Nat.reduceBEq,Int.reduceToNat,Int.reduceLT,Int.reduceLE,Int.reduceEq,Int.reduceAdd,Int.reduceSub,Int.reduceNeg,↓reduceIte,reduceCtorEq])
 (repeat' (first | (refine iteI (fun h=>?_) (fun h=>?_))|(refine Ak (by first | omega | (simp (disch:=omega) only [Aa,Ab,Ac] at *;omega)) ?_;intro b hb)|(refine And.intro (by first | omega | (simp (disch:=omega) only [Aa,Ab,Ac] at *;omega)) ?_)|((first | (refine Ah hm (by rfl) (by kernel_rfl) ?_));simp only [go_sem])|(exact True.intro)|(exfalso;omega)))
 refine SWP.loop (fun p:Nat×Nat=>⟨Ba 54 [(0,.own 1000 0 l.length),(1,.p (.str x)),(5,.p (.bool false)),(6,.p (.int .i64 l.length)),(7,.p (.int .i64 p.1)),(8,.p (.int .i64 p.2))],[(1000,.row 9 1 (strL l))]⟩) (fun p=>p.1≤Cq x l∧Cq x l≤p.2∧p.2≤l.length) (fun p=>p.2 - p.1) (0,l.length) (St.le_slots (by simp only [Ap,Ar,Ao,Aj,Af,Nat.reduceEqDiff,reduceIte,Nat.reduceLT,Nat.reduceLeDiff];simp (disch:=omega) [Af,Ai,Au,Aa] <;> (repeat' apply And.intro) <;> omega) (by simp (disch:=omega) [Az,A3,Aw,Am,Af,Ai,Au,Aa]) (by simp [Ay])) ⟨Nat.zero_le _,hpl,Nat.le_refl _⟩ ?_
 rintro ⟨i,j⟩ ⟨h1,h2,h3⟩
 simp only at h1 h2 h3
 by_cases hi:i<j
 ·have hh:=half (i:=i) (j:=j) (by omega)
  obtain ⟨s,hs⟩:∃ s,l[(i+j) / 2]? = some s:=⟨_,List.getElem?_eq_getElem (show (i+j) / 2<l.length by omega)⟩
  have hg:(strL l)[(i+j) / 2]? = some [.str s]:=by simp [strL,hs]
  have hiff:=Jel hmo hs
  have c1:((i:Int)<(j:Int))=True:=eq_true (by omega)
  have c2:=c1
  skip
  (refine Ae hm _ _ _ ?_;simp only [go_sem,Nat.reduceLT,Nat.reduceEqDiff,Int.reduceToNat,Int.reduceLE,↓reduceIte,reduceCtorEq,hh,hg,c1])
  (repeat' (first | (refine iteI (fun h=>?_) (fun h=>?_))|(refine Ak (by first | omega | (simp (disch:=omega) only [Aa,Ab,Ac] at *;omega)) ?_;intro b hb)|(refine And.intro (by first | omega | (simp (disch:=omega) only [Aa,Ab,Ac] at *;omega)) ?_)|((first | (refine Ah hm (by rfl) (by kernel_rfl) ?_)|(refine Det.use (Jh8 s x) ?_)|(refine Det.useQ (Jh8 s x) ?_));simp only [go_sem,Nat.reduceLT,Nat.reduceEqDiff,↓reduceIte])|(exact True.intro)|(exfalso;omega)))
  ·have hlt:=hiff.1 (by assumption)
   exact ⟨((i+j) / 2+1,j),⟨by simp only;omega,by simp only;omega,by simp only;omega⟩,by simp only;omega,(St.le_slots (by simp only [Ap,Ar,Ao,Aj,Af,Nat.reduceEqDiff,reduceIte,Nat.reduceLT,Nat.reduceLeDiff];simp (disch:=omega) [Af,Ai,Au,Aa] <;> (repeat' apply And.intro) <;> omega) (by simp (disch:=omega) [Az,A3,Aw,Am,Af,Ai,Au,Aa]) (by simp [Ay]))⟩
  ·have hlt:¬ (i+j) / 2<Cq x l:=fun h=>by have:=hiff.2 h;simp_all
   exact ⟨(i,(i+j) / 2),⟨by simp only;omega,by simp only;omega,by simp only;omega⟩,by simp only;omega,(St.le_slots (by simp only [Ap,Ar,Ao,Aj,Af,Nat.reduceEqDiff,reduceIte,Nat.reduceLT,Nat.reduceLeDiff];simp (disch:=omega) [Af,Ai,Au,Aa] <;> (repeat' apply And.intro) <;> omega) (by simp (disch:=omega) [Az,A3,Aw,Am,Af,Ai,Au,Aa]) (by simp [Ay]))⟩
 ·have c1:((i:Int)<(j:Int))=False:=eq_false (by omega)
  have hij:i=Cq x l:=by omega
  subst hij
  have hh:=c1
  by_cases hl:Cq x l<l.length
  ·have c2:((Cq x l:Int)<(l.length:Int))=True:=eq_true (by omega)
   obtain ⟨s,hs⟩:∃ s,l[Cq x l]? = some s:=⟨_,List.getElem?_eq_getElem hl⟩
   have hg:(strL l)[Cq x l]? = some [.str s]:=by simp [strL,hs]
   have hf:Mo x l=(s == x):=by unfold Mo;rw [hs]
   (refine Ae hm _ _ _ ?_;simp only [go_sem,Nat.reduceLT,Nat.reduceEqDiff,↓reduceIte,reduceCtorEq,hh,hg,c2])
   (repeat' (first | (refine iteI (fun h=>?_) (fun h=>?_))|(refine Ak (by first | omega | (simp (disch:=omega) only [Aa,Ab,Ac] at *;omega)) ?_;intro b hb)|(refine And.intro (by first | omega | (simp (disch:=omega) only [Aa,Ab,Ac] at *;omega)) ?_)|((first | (refine Ah hm (by rfl) (by kernel_rfl) ?_)|(refine Det.use (Mt s) ?_)|(refine Det.useQ (Mt s) ?_)|(refine Det.use (Mt x) ?_)|(refine Det.useQ (Mt x) ?_));simp only [go_sem,Nat.reduceLT,Nat.reduceEqDiff,↓reduceIte])|(exact True.intro)|(exfalso;omega)))
   all_goals simp [hf, *]
  ·have hg:=c1
   have c2:((Cq x l:Int)<(l.length:Int))=False:=eq_false (by omega)
   have hf:Mo x l=false:=by unfold Mo;rw [List.getElem?_eq_none (by omega)]
   (refine Ae hm _ _ _ ?_;simp only [go_sem,Nat.reduceLT,Nat.reduceEqDiff,↓reduceIte,reduceCtorEq,hh,c2])
   (repeat' (first | (refine iteI (fun h=>?_) (fun h=>?_))|(refine Ak (by first | omega | (simp (disch:=omega) only [Aa,Ab,Ac] at *;omega)) ?_;intro b hb)|(refine And.intro (by first | omega | (simp (disch:=omega) only [Aa,Ab,Ac] at *;omega)) ?_)|((first | (refine Ah hm (by rfl) (by kernel_rfl) ?_));simp only [go_sem])|(exact True.intro)|(exfalso;omega)))
   all_goals exact hf.symm
end Go.LX
