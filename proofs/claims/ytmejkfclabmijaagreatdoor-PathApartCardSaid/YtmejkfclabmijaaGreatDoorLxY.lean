/- Paths: something else set. -/
import Derived.Test.YtmejkfclabmijaaGreatDoorLxW
import Derived.Test.YtmejkfclabmijaaGreatDoorLxX
import Derived.Test.YtmejkfclabmijaaGreatDoorLxT
set_option linter.unusedSimpArgs false
set_option linter.unusedVariables false
set_option linter.unusedSectionVars false
set_option linter.unnecessarySimpa false
set_option maxRecDepth 100000
set_option maxHeartbeats 2000000
namespace Go.LX
open Go Go.RowKit Go.Proofs
attribute [local irreducible] Al SWP Bi
theorem d_List (l:List (List UInt8×Tree)) (hv:(A1 (unn l)).enc.length≤900000):Det cx 63 [.p (.sl (A4 l))] [] (.p (.sl (valL ((Tree.mk 5 [] false 0 (A1 (unn l))).enc [])))) []:=by
 have hll:=Forest.len_le (A1 (unn l))
 rw [Ca,Kp] at hll
 have c1:(1+(A1 (unn l)).enc.length≤(A1 (unn l)).enc.length+1)=True:=eq_true (by omega)
 have t1:∀ h:List PV,(h :: valL (A1 (unn l)).enc).take (1+(A1 (unn l)).enc.length)=h :: valL (A1 (unn l)).enc:=fun h=>List.take_of_length_le (by simp;omega)
 skip
 (refine Al.of_code (X:=cx) false [] (by simp) Tryz.func63 (by kernel_rfl) rfl (by simp only [List.length_cons,List.length_nil,Tryz.ntmps63];decide) (by simp) ?_;refine Ae hm _ _ _ ?_;simp only [Tryz.ntmps63,Tryz.results63,go_sem,Nat.reduceLT,Nat.reduceLeDiff,Nat.reduceEqDiff,Nat.reduceAdd,Nat.reduceSub,Nat.reduceMul,Nat.reduceBEq,Int.reduceToNat,Int.reduceLT,Int.reduceLE,Int.reduceEq,Int.reduceAdd,Int.reduceSub,Int.reduceNeg,↓reduceIte,reduceCtorEq,A5,A7,c1,t1,if_true])
 (repeat' (first | (refine iteI (fun h=>?_) (fun h=>?_))|(refine Ak (by first | omega | (simp (disch:=omega) only [Aa,Ab,Ac] at *;omega)) ?_;intro b hb)|(refine And.intro (by first | omega | (simp (disch:=omega) only [Aa,Ab,Ac] at *;omega)) ?_)|((first | (refine Ah hm (by rfl) (by kernel_rfl) ?_)|(refine Det.use (Y7 l hv) ?_)|(refine Det.useQ (Y7 l hv) ?_));simp only [go_sem,Nat.reduceLT,Nat.reduceEqDiff,Nat.reduceAdd,↓reduceIte,A7,c1,t1])|(exact True.intro)|(exfalso;omega)))
 (repeat' (first | (refine And.intro (by first | omega | (simp;done)|(simp;omega) | exact E7 _) ?_)))
 rw [A6,Ca,Kp]
 rfl
def FitT (t:Tree):Prop:=∀ n∈t.enc [],NodeFit n
theorem O4 {nm:List UInt8} {t:Tree}:∀ {f:Forest},(nm,t)∈f.list→∀ n∈t.enc nm,n∈f.enc
 | .nil,h,_,_=>by cases h
 | .cons a b r,h,n,hn=>by
  rw [A0,List.mem_append]
  rcases List.mem_cons.1 h with h | h
  ·cases h;exact .inl hn
  ·exact .inr (O4 h n hn)
theorem Y3 {t:Tree} {a b:List UInt8} (h:∀ n∈t.enc a,NodeFit n) (hb:b.length≤1000000):∀ n∈t.enc b,NodeFit n:=by
 cases t with
 | mk k s g e kids =>
  rw [A6] at h ⊢
  intro n hn
  rcases List.mem_cons.1 hn with rfl | hn
  ·have:=h _ List.mem_cons_self
   exact ⟨this.s,hb,this.e0,this.e1⟩
  ·exact h n (List.mem_cons_of_mem _ hn)
theorem Mg {k:Int} {s:List UInt8} {g:Bool} {e:Int} {kids:Forest} (h:FitT (.mk k s g e kids)) {p:List UInt8×Tree} (hp:p∈kids.list):p.1.length≤1000000∧FitT p.2:=by
 obtain ⟨nm,t⟩:=p
 have h1:∀ n∈t.enc nm,NodeFit n:=fun n hn=>h n (by rw [A6];exact List.mem_cons_of_mem _ (O4 hp n hn))
 refine ⟨?_,Y3 h1 (by simp)⟩
 cases t with
 | mk k s g e kids =>
  exact (h1 _ (by rw [A6];exact List.mem_cons_self)).name
theorem Ji9 {t w:Tree} {x:Step} (h:FitT t) (hi:inT t x=.ok w):FitT w:=by
 cases t with
 | mk k s g e kids =>
  obtain ⟨p,h1,rfl⟩:=Jd5 hi
  exact (Mg h h1).2
theorem S7 (l:List (List UInt8×Tree)) (n:Nat) (y:Tree):(A4 l).set n [.sl (valL (y.enc []))]=A4 (l.set n ([],y)):=by simp [A4,List.map_set]
theorem Pm {l:List KT} {i:Nat} {y:Tree}:(A1 (unn (l.set i ([],y)))).enc.length≤(A1 l).enc.length+(y.enc []).length:=by
 induction l generalizing i with
 | nil=>simp [unn,A1,Bl]
 | cons p l ih =>
  have hl:∀ l:List KT,(A1 (unn l)).enc.length=(A1 l).enc.length:=by
   intro l
   induction l with
   | nil=>rfl
   | cons q l ih =>
    unfold unn at ih ⊢
    simp only [List.map_cons,A1,A0,List.length_append,ih,G7 _ q.1]
  cases i with
  | zero =>
   rw [hl]
   simp only [List.set_cons_zero,A1,A0,List.length_append];omega
  | succ i =>
   have:=ih (i:=i)
   rw [hl] at this ⊢
   simp only [List.set_cons_succ,A1,A0,List.length_append];omega
theorem Jkz {s:List UInt8} {g:Bool} {e:Int} {kids:Forest} {x:Step} {y:Tree} (hp:x.part=true):putT (.mk 5 s g e kids) x y=.mk 5 [] false 0 (A1 (unn (kids.list.set x.n.toNat ([],y)))):=by
 show (if x.part=true then nd 5 _ else _)=_
 rw [if_pos hp];rfl
theorem Jkb {s:List UInt8} {g:Bool} {e:Int} {kids:Forest} {x:Step} {y:Tree} (hp:x.part=false):putT (.mk 6 s g e kids) x y=.mk 6 [] false 0 (A1 (putL x.name y (A8 x.name kids.list))):=by
 show (if x.part=true then _ else nd 6 _)=_
 rw [if_neg (by simp [hp])];rfl
theorem Jei (t u:Tree):Det cx 26 [.p (.sl (Bb [])),.p (.sl (valL (t.enc []))),.p (.sl (valL (u.enc [])))] [] (getR (setT [] t u)) []:=by
 have hpe:Bb []=[]:=rfl
 skip
 (refine Al.of_code (X:=cx) false [] (by simp) Tryz.func26 (by kernel_rfl) rfl (by simp only [List.length_cons,List.length_nil,Tryz.ntmps26];decide) (by simp) ?_;refine Ae hm _ _ _ ?_;simp only [Tryz.ntmps26,Tryz.results26,go_sem,Nat.reduceLT,Nat.reduceLeDiff,Nat.reduceEqDiff,Nat.reduceAdd,Nat.reduceSub,Nat.reduceMul,Nat.reduceBEq,Int.reduceToNat,Int.reduceLT,Int.reduceLE,Int.reduceEq,Int.reduceAdd,Int.reduceSub,Int.reduceNeg,↓reduceIte,reduceCtorEq,hpe])
 (repeat' (first | (refine iteI (fun h=>?_) (fun h=>?_))|(refine Ak (by first | omega | (simp (disch:=omega) only [Aa,Ab,Ac] at *;omega)) ?_;intro b hb)|(refine And.intro (by first | omega | (simp (disch:=omega) only [Aa,Ab,Ac] at *;omega)) ?_)|((first | (refine Ah hm (by rfl) (by kernel_rfl) ?_));simp only [go_sem])|(exact True.intro)|(exfalso;omega)))
 rfl
theorem Hu {p:List Step} {t u:Tree} {e:Nat} (h:setT p t u=.error e):e=5∨e=6:=by
 rw [Km] at h
 induction p generalizing t with
 | nil=>cases h
 | cons x p ih =>
  rw [getT] at h
  cases hi:inT t x with
  | error e'=>rw [hi] at h;cases h;exact M2 hi
  | ok w=>rw [hi] at h;exact ih h
theorem L8:∀ (p:List Step) (t u:Tree),p.length≤1000→(∀ x∈p,Bc x)→okT t→okT u→(t.enc []).length+(u.enc []).length≤200000→Det cx 26 [.p (.sl (Bb p)),.p (.sl (valL (t.enc []))),.p (.sl (valL (u.enc [])))] [] (getR (setT p t u)) []
 | [],t,u,hp,hok,ht,hu,hs=>Jei t u
 | x :: p,t,u,hp,hok,ht,hu,hs=>by
  have hx:=hok x List.mem_cons_self
  have hpl:Bb (x :: p)=[.bool x.part,.str x.name,.int .i64 x.n] :: Bb p:=rfl
  have hcl:((((Bb p).length+1:Nat):Int)=0)=False:=eq_false (by omega)
  have hin:=d_in t x (by omega) hx
  simp only [List.length_cons] at hp
  cases hi:inT t x with
  | error e =>
   rw [hi] at hin
   unfold getR at hin
   have he:=M2 hi
   have c1:((e:Int)=0)=False:=eq_false (by omega)
   have hps:=c1
   have c2:=c1
   have c3:=c1
   have l1:=c1
   have l2:=c1
   have hpt:=c1
   have hxm:=c1
   skip
   (refine Al.of_code (X:=cx) false [] (by simp) Tryz.func26 (by kernel_rfl) rfl (by simp only [List.length_cons,List.length_nil,Tryz.ntmps26];decide) (by simp) ?_;refine Ae hm _ _ _ ?_;simp only [Tryz.ntmps26,Tryz.results26,go_sem,Nat.reduceLT,Nat.reduceLeDiff,Nat.reduceEqDiff,Nat.reduceAdd,Nat.reduceSub,Nat.reduceMul,Nat.reduceBEq,Int.reduceToNat,Int.reduceLT,Int.reduceLE,Int.reduceEq,Int.reduceAdd,Int.reduceSub,Int.reduceNeg,↓reduceIte,reduceCtorEq,hpl,hcl,c1,c2,c3,hps,l1,l2,hpt,hxm,if_false,if_true])
   (repeat' (first | (refine iteI (fun h=>?_) (fun h=>?_))|(refine Ak (by first | omega | (simp (disch:=omega) only [Aa,Ab,Ac] at *;omega)) ?_;intro b hb)|(refine And.intro (by first | omega | (simp (disch:=omega) only [Aa,Ab,Ac] at *;omega)) ?_)|((first | (refine Ah hm (by rfl) (by kernel_rfl) ?_)|(refine Det.use (hin) ?_)|(refine Det.useQ (hin) ?_)|(refine Ag.use (hin) ?_)|(refine Ad.use (hin) ?_));simp only [go_sem,Nat.reduceLT,Nat.reduceEqDiff,↓reduceIte,c1])|(exact True.intro)|(exfalso;omega)))
   rw [setT,hi];rfl
  | ok w =>
   rw [hi] at hin
   unfold getR at hin
   have hle:=Q7 hi
   have hw:=Jv ht hi
   have ih:=L8 p w u (by omega) (fun y hy=>hok y (List.mem_cons_of_mem _ hy)) (Ig ht hw) hu (by omega)
   cases hz:setT p w u with
   | error e =>
    rw [hz] at ih
    unfold getR at ih
    have he:=Hu hz
    have c1:((e:Int)=0)=False:=eq_false (by omega)
    have hps:=c1
    have c2:=c1
    have c3:=c1
    have l1:=c1
    have l2:=c1
    have hpt:=c1
    have hxm:=c1
    (refine Al.of_code (X:=cx) false [] (by simp) Tryz.func26 (by kernel_rfl) rfl (by simp only [List.length_cons,List.length_nil,Tryz.ntmps26];decide) (by simp) ?_;refine Ae hm _ _ _ ?_;simp only [Tryz.ntmps26,Tryz.results26,go_sem,Nat.reduceLT,Nat.reduceLeDiff,Nat.reduceEqDiff,Nat.reduceAdd,Nat.reduceSub,Nat.reduceMul,Nat.reduceBEq,Int.reduceToNat,Int.reduceLT,Int.reduceLE,Int.reduceEq,Int.reduceAdd,Int.reduceSub,Int.reduceNeg,↓reduceIte,reduceCtorEq,hpl,hcl,c1,c2,c3,hps,l1,l2,hpt,hxm,if_false,if_true])
    (repeat' (first | (refine iteI (fun h=>?_) (fun h=>?_))|(refine Ak (by first | omega | (simp (disch:=omega) only [Aa,Ab,Ac] at *;omega)) ?_;intro b hb)|(refine And.intro (by first | omega | (simp (disch:=omega) only [Aa,Ab,Ac] at *;omega)) ?_)|((first | (refine Ah hm (by rfl) (by kernel_rfl) ?_)|(refine Det.use (hin) ?_)|(refine Det.useQ (hin) ?_)|(refine Ag.use (hin) ?_)|(refine Ad.use (hin) ?_)|(refine Det.use (ih) ?_)|(refine Det.useQ (ih) ?_)|(refine Ag.use (ih) ?_)|(refine Ad.use (ih) ?_));simp only [go_sem,Nat.reduceLT,Nat.reduceEqDiff,Int.reduceToNat,Int.reduceLE,↓reduceIte,reduceCtorEq])|(exact True.intro)|(exfalso;omega)))
    refine ⟨by intro z hz';rcases List.mem_cons.1 hz' with rfl | hz';(· rfl);exact Bp _ z hz',by omega,?_⟩
    (repeat' (first | (refine iteI (fun h=>?_) (fun h=>?_))|(refine Ak (by first | omega | (simp (disch:=omega) only [Aa,Ab,Ac] at *;omega)) ?_;intro b hb)|(refine And.intro (by first | omega | (simp (disch:=omega) only [Aa,Ab,Ac] at *;omega)) ?_)|((first | (refine Ah hm (by rfl) (by kernel_rfl) ?_)|(refine Det.use (hin) ?_)|(refine Det.useQ (hin) ?_)|(refine Ag.use (hin) ?_)|(refine Ad.use (hin) ?_)|(refine Det.use (ih) ?_)|(refine Det.useQ (ih) ?_)|(refine Ag.use (ih) ?_)|(refine Ad.use (ih) ?_));simp only [go_sem,Nat.reduceLT,Nat.reduceEqDiff,↓reduceIte,c1])|(exact True.intro)|(exfalso;omega)))
    rw [setT,hi];simp only;rw [hz];rfl
   | ok y =>
    rw [hz] at ih
    unfold getR at ih
    have hyl:=(Kg (Ig ht hw) hu hz)
    obtain ⟨_,_,_,_,_,_,hyl⟩:=hyl
    have c1:=hpl
    have hres:setT (x :: p) t u=.ok (putT t x y):=by rw [setT,hi];simp only;rw [hz]
    rw [hres]
    cases t with
    | mk k s g e kids =>
    have hkv:kids.enc.length≤200000:=by rw [A6] at hs;simp at hs;omega
    have hll:=Forest.len_le kids
    have hkl:=Forest.list_len kids
    cases hpt:x.part with
    | true =>
     obtain ⟨l,h5,_,hn,hg⟩ | ⟨_,_,h6,_,_⟩:=hw
     rotate_left
     ·rw [hpt] at h6;cases h6
     unfold nd at h5
     injection h5 with q1 q2 q3 q4 q5
     subst q1
     have hkk:kids.list=l:=by rw [q5,Ea]
     unfold Bc at hx
     rw [if_pos hpt] at hx
     obtain ⟨m,hxm⟩:∃ m:Nat,x.n=m:=⟨x.n.toNat,by omega⟩
     rw [Jkz hpt,hxm]
     simp only [Int.toNat_natCast]
     have hml:m<kids.len:=by
      have:=(List.getElem?_eq_some_iff.1 hg).1
      rw [hxm] at this
      simp only [Int.toNat_natCast] at this
      rw [← hkl,hkk];exact this
     obtain ⟨q,hq⟩:∃ q,kids.list[m]? = some q:=⟨_,List.getElem?_eq_getElem (by omega)⟩
     have c2:=Hx hq
     have c3:(A4 kids.list).length=kids.len:=by rw [A5,hkl]
     have hps:=S7 kids.list m y
     have l1:(A4 (kids.list.set m ([],y))).take kids.len=A4 (kids.list.set m ([],y)):=List.take_of_length_le (by rw [A5,List.length_set];omega)
     have l2:(kids.len≤(A4 (kids.list.set m ([],y))).length)=True:=eq_true (by rw [A5,List.length_set];omega)
     have hus:=Pm (l:=kids.list) (i:=m) (y:=y)
     rw [G1] at hus
     have hL:=d_List (kids.list.set m ([],y)) (by omega)
     have hP:=Jc9 [] 5 s g e kids (by omega)
     rw [hpt,hxm] at hin
     (refine Al.of_code (X:=cx) false [] (by simp) Tryz.func26 (by kernel_rfl) rfl (by simp only [List.length_cons,List.length_nil,Tryz.ntmps26];decide) (by simp) ?_;refine Ae hm _ _ _ ?_;simp only [Tryz.ntmps26,Tryz.results26,go_sem,Nat.reduceLT,Nat.reduceLeDiff,Nat.reduceEqDiff,Nat.reduceAdd,Nat.reduceSub,Nat.reduceMul,Nat.reduceBEq,Int.reduceToNat,Int.reduceLT,Int.reduceLE,Int.reduceEq,Int.reduceAdd,Int.reduceSub,Int.reduceNeg,↓reduceIte,reduceCtorEq,hpl,hcl,c1,c2,c3,hps,l1,l2,hpt,hxm,if_false,if_true])
     (repeat' (first | (refine iteI (fun h=>?_) (fun h=>?_))|(refine Ak (by first | omega | (simp (disch:=omega) only [Aa,Ab,Ac] at *;omega)) ?_;intro b hb)|(refine And.intro (by first | omega | (simp (disch:=omega) only [Aa,Ab,Ac] at *;omega)) ?_)|((first | (refine Ah hm (by rfl) (by kernel_rfl) ?_)|(refine Det.use (hin) ?_)|(refine Det.useQ (hin) ?_)|(refine Ag.use (hin) ?_)|(refine Ad.use (hin) ?_)|(refine Det.use (ih) ?_)|(refine Det.useQ (ih) ?_)|(refine Ag.use (ih) ?_)|(refine Ad.use (ih) ?_)|(refine Det.use (hP) ?_)|(refine Det.useQ (hP) ?_)|(refine Ag.use (hP) ?_)|(refine Ad.use (hP) ?_)|(refine Det.use (hL) ?_)|(refine Det.useQ (hL) ?_)|(refine Ag.use (hL) ?_)|(refine Ad.use (hL) ?_));simp only [go_sem,Nat.reduceLT,Nat.reduceEqDiff,Int.reduceToNat,Int.reduceLE,↓reduceIte,reduceCtorEq])|(exact True.intro)|(exfalso;omega)))
     refine ⟨by intro z hz';rcases List.mem_cons.1 hz' with rfl | hz';(· rfl);exact Bp _ z hz',by omega,?_⟩
     (repeat' (first | (refine iteI (fun h=>?_) (fun h=>?_))|(refine Ak (by first | omega | (simp (disch:=omega) only [Aa,Ab,Ac] at *;omega)) ?_;intro b hb)|(refine And.intro (by first | omega | (simp (disch:=omega) only [Aa,Ab,Ac] at *;omega)) ?_)|((first | (refine Ah hm (by rfl) (by kernel_rfl) ?_)|(refine Det.use (hin) ?_)|(refine Det.useQ (hin) ?_)|(refine Ag.use (hin) ?_)|(refine Ad.use (hin) ?_)|(refine Det.use (ih) ?_)|(refine Det.useQ (ih) ?_)|(refine Ag.use (ih) ?_)|(refine Ad.use (ih) ?_)|(refine Det.use (hP) ?_)|(refine Det.useQ (hP) ?_)|(refine Ag.use (hP) ?_)|(refine Ad.use (hP) ?_)|(refine Det.use (hL) ?_)|(refine Det.useQ (hL) ?_)|(refine Ag.use (hL) ?_)|(refine Ad.use (hL) ?_));simp only [go_sem,Nat.reduceLT,Nat.reduceLeDiff,Nat.reduceEqDiff,Nat.reduceAdd,Int.reduceToNat,Int.reduceLE,↓reduceIte,reduceCtorEq,c2,hps,l1,l2])|(exact True.intro)|(exfalso;omega)))
     all_goals rfl
    | false =>
     obtain ⟨_,_,h5,_,_⟩ | ⟨l,h6,_,hr,hg⟩:=hw
     ·rw [hpt] at h5;cases h5
     unfold nd at h6
     injection h6 with q1 q2 q3 q4 q5
     subst q1
     have hkk:kids.list=l:=by rw [q5,Ea]
     rw [Jkb hpt]
     rw [hpt] at hin
     have hW:=d_With [] s g e kids x.name y (by omega) (by omega) (by rw [hkk];exact hr.kept _)
     have c2:=hpl
     have c3:=hpl
     have hps:=hpl
     have l1:=hpl
     have l2:=hpl
     have hxm:=hpl
     (refine Al.of_code (X:=cx) false [] (by simp) Tryz.func26 (by kernel_rfl) rfl (by simp only [List.length_cons,List.length_nil,Tryz.ntmps26];decide) (by simp) ?_;refine Ae hm _ _ _ ?_;simp only [Tryz.ntmps26,Tryz.results26,go_sem,Nat.reduceLT,Nat.reduceLeDiff,Nat.reduceEqDiff,Nat.reduceAdd,Nat.reduceSub,Nat.reduceMul,Nat.reduceBEq,Int.reduceToNat,Int.reduceLT,Int.reduceLE,Int.reduceEq,Int.reduceAdd,Int.reduceSub,Int.reduceNeg,↓reduceIte,reduceCtorEq,hpl,hcl,c1,c2,c3,hps,l1,l2,hpt,hxm,if_false,if_true])
     (repeat' (first | (refine iteI (fun h=>?_) (fun h=>?_))|(refine Ak (by first | omega | (simp (disch:=omega) only [Aa,Ab,Ac] at *;omega)) ?_;intro b hb)|(refine And.intro (by first | omega | (simp (disch:=omega) only [Aa,Ab,Ac] at *;omega)) ?_)|((first | (refine Ah hm (by rfl) (by kernel_rfl) ?_)|(refine Det.use (hin) ?_)|(refine Det.useQ (hin) ?_)|(refine Ag.use (hin) ?_)|(refine Ad.use (hin) ?_)|(refine Det.use (ih) ?_)|(refine Det.useQ (ih) ?_)|(refine Ag.use (ih) ?_)|(refine Ad.use (ih) ?_)|(refine Det.use (hW) ?_)|(refine Det.useQ (hW) ?_)|(refine Ag.use (hW) ?_)|(refine Ad.use (hW) ?_));simp only [go_sem,Nat.reduceLT,Nat.reduceEqDiff,Int.reduceToNat,Int.reduceLE,↓reduceIte,reduceCtorEq])|(exact True.intro)|(exfalso;omega)))
     refine ⟨by intro z hz';rcases List.mem_cons.1 hz' with rfl | hz';(· rfl);exact Bp _ z hz',by omega,?_⟩
     (repeat' (first | (refine iteI (fun h=>?_) (fun h=>?_))|(refine Ak (by first | omega | (simp (disch:=omega) only [Aa,Ab,Ac] at *;omega)) ?_;intro b hb)|(refine And.intro (by first | omega | (simp (disch:=omega) only [Aa,Ab,Ac] at *;omega)) ?_)|((first | (refine Ah hm (by rfl) (by kernel_rfl) ?_)|(refine Det.use (hin) ?_)|(refine Det.useQ (hin) ?_)|(refine Ag.use (hin) ?_)|(refine Ad.use (hin) ?_)|(refine Det.use (ih) ?_)|(refine Det.useQ (ih) ?_)|(refine Ag.use (ih) ?_)|(refine Ad.use (ih) ?_)|(refine Det.use (hW) ?_)|(refine Det.useQ (hW) ?_)|(refine Ag.use (hW) ?_)|(refine Ad.use (hW) ?_));simp only [go_sem,Nat.reduceLT,Nat.reduceLeDiff,Nat.reduceEqDiff,Nat.reduceAdd,Int.reduceToNat,Int.reduceLE,↓reduceIte,reduceCtorEq])|(exact True.intro)|(exfalso;omega)))
     all_goals rfl
theorem Us (t u:Tree):Det cx 27 [.p (.sl (Bb [])),.p (.sl (valL (t.enc []))),.p (.sl (valL (u.enc [])))] [] (getR (setT [] t u)) []:=by
 have hpe:Bb []=[]:=rfl
 skip
 (refine Al.of_code (X:=cx) false [] (by simp) Tryz.func27 (by kernel_rfl) rfl (by simp only [List.length_cons,List.length_nil,Tryz.ntmps27];decide) (by simp) ?_;refine Ae hm _ _ _ ?_;simp only [Tryz.ntmps27,Tryz.results27,go_sem,Nat.reduceLT,Nat.reduceLeDiff,Nat.reduceEqDiff,Nat.reduceAdd,Nat.reduceSub,Nat.reduceMul,Nat.reduceBEq,Int.reduceToNat,Int.reduceLT,Int.reduceLE,Int.reduceEq,Int.reduceAdd,Int.reduceSub,Int.reduceNeg,↓reduceIte,reduceCtorEq,hpe])
 (repeat' (first | (refine iteI (fun h=>?_) (fun h=>?_))|(refine Ak (by first | omega | (simp (disch:=omega) only [Aa,Ab,Ac] at *;omega)) ?_;intro b hb)|(refine And.intro (by first | omega | (simp (disch:=omega) only [Aa,Ab,Ac] at *;omega)) ?_)|((first | (refine Ah hm (by rfl) (by kernel_rfl) ?_));simp only [go_sem])|(exact True.intro)|(exfalso;omega)))
 rfl
theorem Tk:∀ (p:List Step) (t u:Tree),p.length≤1000→(∀ x∈p,Bc x)→okT t→FitT t→okT u→(t.enc []).length+(u.enc []).length≤200000→Det cx 27 [.p (.sl (Bb p)),.p (.sl (valL (t.enc []))),.p (.sl (valL (u.enc [])))] [] (getR (setT p t u)) []
 | [],t,u,hp,hok,ht,hft,hu,hs=>Us t u
 | x :: p,t,u,hp,hok,ht,hft,hu,hs=>by
  have hx:=hok x List.mem_cons_self
  have hpl:Bb (x :: p)=[.bool x.part,.str x.name,.int .i64 x.n] :: Bb p:=rfl
  have hcl:((((Bb p).length+1:Nat):Int)=0)=False:=eq_false (by omega)
  have hin:=P2 t x (by omega) hx
  simp only [List.length_cons] at hp
  cases hi:inT t x with
  | error e =>
   rw [hi] at hin
   unfold getR at hin
   have he:=M2 hi
   have c1:((e:Int)=0)=False:=eq_false (by omega)
   have hps:=c1
   have c2:=c1
   have c3:=c1
   have l1:=c1
   have l2:=c1
   have hpt:=c1
   have hxm:=c1
   skip
   (refine Al.of_code (X:=cx) false [] (by simp) Tryz.func27 (by kernel_rfl) rfl (by simp only [List.length_cons,List.length_nil,Tryz.ntmps27];decide) (by simp) ?_;refine Ae hm _ _ _ ?_;simp only [Tryz.ntmps27,Tryz.results27,go_sem,Nat.reduceLT,Nat.reduceLeDiff,Nat.reduceEqDiff,Nat.reduceAdd,Nat.reduceSub,Nat.reduceMul,Nat.reduceBEq,Int.reduceToNat,Int.reduceLT,Int.reduceLE,Int.reduceEq,Int.reduceAdd,Int.reduceSub,Int.reduceNeg,↓reduceIte,reduceCtorEq,hpl,hcl,c1,c2,c3,hps,l1,l2,hpt,hxm,if_false,if_true])
   (repeat' (first | (refine iteI (fun h=>?_) (fun h=>?_))|(refine Ak (by first | omega | (simp (disch:=omega) only [Aa,Ab,Ac] at *;omega)) ?_;intro b hb)|(refine And.intro (by first | omega | (simp (disch:=omega) only [Aa,Ab,Ac] at *;omega)) ?_)|((first | (refine Ah hm (by rfl) (by kernel_rfl) ?_)|(refine Det.use (hin) ?_)|(refine Det.useQ (hin) ?_)|(refine Ag.use (hin) ?_)|(refine Ad.use (hin) ?_));simp only [go_sem,Nat.reduceLT,Nat.reduceEqDiff,↓reduceIte,c1])|(exact True.intro)|(exfalso;omega)))
   rw [setT,hi];rfl
  | ok w =>
   rw [hi] at hin
   unfold getR at hin
   have hle:=Q7 hi
   have hw:=Jv ht hi
   have ih:=Tk p w u (by omega) (fun y hy=>hok y (List.mem_cons_of_mem _ hy)) (Ig ht hw) (Ji9 hft hi) hu (by omega)
   cases hz:setT p w u with
   | error e =>
    rw [hz] at ih
    unfold getR at ih
    have he:=Hu hz
    have c1:((e:Int)=0)=False:=eq_false (by omega)
    have hps:=c1
    have c2:=c1
    have c3:=c1
    have l1:=c1
    have l2:=c1
    have hpt:=c1
    have hxm:=c1
    (refine Al.of_code (X:=cx) false [] (by simp) Tryz.func27 (by kernel_rfl) rfl (by simp only [List.length_cons,List.length_nil,Tryz.ntmps27];decide) (by simp) ?_;refine Ae hm _ _ _ ?_;simp only [Tryz.ntmps27,Tryz.results27,go_sem,Nat.reduceLT,Nat.reduceLeDiff,Nat.reduceEqDiff,Nat.reduceAdd,Nat.reduceSub,Nat.reduceMul,Nat.reduceBEq,Int.reduceToNat,Int.reduceLT,Int.reduceLE,Int.reduceEq,Int.reduceAdd,Int.reduceSub,Int.reduceNeg,↓reduceIte,reduceCtorEq,hpl,hcl,c1,c2,c3,hps,l1,l2,hpt,hxm,if_false,if_true])
    (repeat' (first | (refine iteI (fun h=>?_) (fun h=>?_))|(refine Ak (by first | omega | (simp (disch:=omega) only [Aa,Ab,Ac] at *;omega)) ?_;intro b hb)|(refine And.intro (by first | omega | (simp (disch:=omega) only [Aa,Ab,Ac] at *;omega)) ?_)|((first | (refine Ah hm (by rfl) (by kernel_rfl) ?_)|(refine Det.use (hin) ?_)|(refine Det.useQ (hin) ?_)|(refine Ag.use (hin) ?_)|(refine Ad.use (hin) ?_)|(refine Det.use (ih) ?_)|(refine Det.useQ (ih) ?_)|(refine Ag.use (ih) ?_)|(refine Ad.use (ih) ?_));simp only [go_sem,Nat.reduceLT,Nat.reduceEqDiff,Int.reduceToNat,Int.reduceLE,↓reduceIte,reduceCtorEq])|(exact True.intro)|(exfalso;omega)))
    refine ⟨by intro z hz';rcases List.mem_cons.1 hz' with rfl | hz';(· rfl);exact Bp _ z hz',by omega,?_⟩
    (repeat' (first | (refine iteI (fun h=>?_) (fun h=>?_))|(refine Ak (by first | omega | (simp (disch:=omega) only [Aa,Ab,Ac] at *;omega)) ?_;intro b hb)|(refine And.intro (by first | omega | (simp (disch:=omega) only [Aa,Ab,Ac] at *;omega)) ?_)|((first | (refine Ah hm (by rfl) (by kernel_rfl) ?_)|(refine Det.use (hin) ?_)|(refine Det.useQ (hin) ?_)|(refine Ag.use (hin) ?_)|(refine Ad.use (hin) ?_)|(refine Det.use (ih) ?_)|(refine Det.useQ (ih) ?_)|(refine Ag.use (ih) ?_)|(refine Ad.use (ih) ?_));simp only [go_sem,Nat.reduceLT,Nat.reduceEqDiff,↓reduceIte,c1])|(exact True.intro)|(exfalso;omega)))
    rw [setT,hi];simp only;rw [hz];rfl
   | ok y =>
    rw [hz] at ih
    unfold getR at ih
    have hyl:=(Kg (Ig ht hw) hu hz)
    obtain ⟨_,_,_,_,_,_,hyl⟩:=hyl
    have c1:=hpl
    have hres:setT (x :: p) t u=.ok (putT t x y):=by rw [setT,hi];simp only;rw [hz]
    rw [hres]
    cases t with
    | mk k s g e kids =>
    have hkv:kids.enc.length≤200000:=by rw [A6] at hs;simp at hs;omega
    have hll:=Forest.len_le kids
    have hkl:=Forest.list_len kids
    cases hpt:x.part with
    | true =>
     obtain ⟨l,h5,_,hn,hg⟩ | ⟨_,_,h6,_,_⟩:=hw
     rotate_left
     ·rw [hpt] at h6;cases h6
     unfold nd at h5
     injection h5 with q1 q2 q3 q4 q5
     subst q1
     have hkk:kids.list=l:=by rw [q5,Ea]
     unfold Bc at hx
     rw [if_pos hpt] at hx
     obtain ⟨m,hxm⟩:∃ m:Nat,x.n=m:=⟨x.n.toNat,by omega⟩
     rw [Jkz hpt,hxm]
     simp only [Int.toNat_natCast]
     have hml:m<kids.len:=by
      have:=(List.getElem?_eq_some_iff.1 hg).1
      rw [hxm] at this
      simp only [Int.toNat_natCast] at this
      rw [← hkl,hkk];exact this
     obtain ⟨q,hq⟩:∃ q,kids.list[m]? = some q:=⟨_,List.getElem?_eq_getElem (by omega)⟩
     have c2:=Hx hq
     have c3:(A4 kids.list).length=kids.len:=by rw [A5,hkl]
     have hps:=S7 kids.list m y
     have l1:(A4 (kids.list.set m ([],y))).take kids.len=A4 (kids.list.set m ([],y)):=List.take_of_length_le (by rw [A5,List.length_set];omega)
     have l2:(kids.len≤(A4 (kids.list.set m ([],y))).length)=True:=eq_true (by rw [A5,List.length_set];omega)
     have hus:=Pm (l:=kids.list) (i:=m) (y:=y)
     rw [G1] at hus
     have hL:=Tt (kids.list.set m ([],y)) (by omega)
     have hP:=Qx [] 5 s g e kids (by omega)
     rw [hpt,hxm] at hin
     (refine Al.of_code (X:=cx) false [] (by simp) Tryz.func27 (by kernel_rfl) rfl (by simp only [List.length_cons,List.length_nil,Tryz.ntmps27];decide) (by simp) ?_;refine Ae hm _ _ _ ?_;simp only [Tryz.ntmps27,Tryz.results27,go_sem,Nat.reduceLT,Nat.reduceLeDiff,Nat.reduceEqDiff,Nat.reduceAdd,Nat.reduceSub,Nat.reduceMul,Nat.reduceBEq,Int.reduceToNat,Int.reduceLT,Int.reduceLE,Int.reduceEq,Int.reduceAdd,Int.reduceSub,Int.reduceNeg,↓reduceIte,reduceCtorEq,hpl,hcl,c1,c2,c3,hps,l1,l2,hpt,hxm,if_false,if_true])
     (repeat' (first | (refine iteI (fun h=>?_) (fun h=>?_))|(refine Ak (by first | omega | (simp (disch:=omega) only [Aa,Ab,Ac] at *;omega)) ?_;intro b hb)|(refine And.intro (by first | omega | (simp (disch:=omega) only [Aa,Ab,Ac] at *;omega)) ?_)|((first | (refine Ah hm (by rfl) (by kernel_rfl) ?_)|(refine Det.use (hin) ?_)|(refine Det.useQ (hin) ?_)|(refine Ag.use (hin) ?_)|(refine Ad.use (hin) ?_)|(refine Det.use (ih) ?_)|(refine Det.useQ (ih) ?_)|(refine Ag.use (ih) ?_)|(refine Ad.use (ih) ?_)|(refine Det.use (hP) ?_)|(refine Det.useQ (hP) ?_)|(refine Ag.use (hP) ?_)|(refine Ad.use (hP) ?_)|(refine Det.use (hL) ?_)|(refine Det.useQ (hL) ?_)|(refine Ag.use (hL) ?_)|(refine Ad.use (hL) ?_));simp only [go_sem,Nat.reduceLT,Nat.reduceEqDiff,Int.reduceToNat,Int.reduceLE,↓reduceIte,reduceCtorEq])|(exact True.intro)|(exfalso;omega)))
     refine ⟨by intro z hz';rcases List.mem_cons.1 hz' with rfl | hz';(· rfl);exact Bp _ z hz',by omega,?_⟩
     (repeat' (first | (refine iteI (fun h=>?_) (fun h=>?_))|(refine Ak (by first | omega | (simp (disch:=omega) only [Aa,Ab,Ac] at *;omega)) ?_;intro b hb)|(refine And.intro (by first | omega | (simp (disch:=omega) only [Aa,Ab,Ac] at *;omega)) ?_)|((first | (refine Ah hm (by rfl) (by kernel_rfl) ?_)|(refine Det.use (hin) ?_)|(refine Det.useQ (hin) ?_)|(refine Ag.use (hin) ?_)|(refine Ad.use (hin) ?_)|(refine Det.use (ih) ?_)|(refine Det.useQ (ih) ?_)|(refine Ag.use (ih) ?_)|(refine Ad.use (ih) ?_)|(refine Det.use (hP) ?_)|(refine Det.useQ (hP) ?_)|(refine Ag.use (hP) ?_)|(refine Ad.use (hP) ?_)|(refine Det.use (hL) ?_)|(refine Det.useQ (hL) ?_)|(refine Ag.use (hL) ?_)|(refine Ad.use (hL) ?_));simp only [go_sem,Nat.reduceLT,Nat.reduceLeDiff,Nat.reduceEqDiff,Nat.reduceAdd,Int.reduceToNat,Int.reduceLE,↓reduceIte,reduceCtorEq,c2,hps,l1,l2])|(exact True.intro)|(exfalso;omega)))
     all_goals rfl
    | false =>
     obtain ⟨_,_,h5,_,_⟩ | ⟨l,h6,_,hr,hg⟩:=hw
     ·rw [hpt] at h5;cases h5
     unfold nd at h6
     injection h6 with q1 q2 q3 q4 q5
     subst q1
     have hkk:kids.list=l:=by rw [q5,Ea]
     rw [Jkb hpt]
     rw [hpt] at hin
     have hkO:=(Lu.1 ht).2.1
     have hxo:x.name.length≤1000000:=by
      obtain ⟨z,hz1,hz2⟩:=Qq hg
      rw [← hz2,← hkk] at *
      rw [← hkk] at hz1
      exact (Mg hft hz1).1
     have hxv:valid x.name=true:=by
      unfold Bc at hx
      rw [if_neg (by simp [hpt])] at hx
      exact hx.2
     have hW:=Tl [] s g e kids x.name y (by omega) (by omega) (by rw [hkk];exact hr.kept _) (fun z hz=>(Mg hft hz).1) hkO.2.1 hxo hxv
     have c2:=hpl
     have c3:=hpl
     have hps:=hpl
     have l1:=hpl
     have l2:=hpl
     have hxm:=hpl
     (refine Al.of_code (X:=cx) false [] (by simp) Tryz.func27 (by kernel_rfl) rfl (by simp only [List.length_cons,List.length_nil,Tryz.ntmps27];decide) (by simp) ?_;refine Ae hm _ _ _ ?_;simp only [Tryz.ntmps27,Tryz.results27,go_sem,Nat.reduceLT,Nat.reduceLeDiff,Nat.reduceEqDiff,Nat.reduceAdd,Nat.reduceSub,Nat.reduceMul,Nat.reduceBEq,Int.reduceToNat,Int.reduceLT,Int.reduceLE,Int.reduceEq,Int.reduceAdd,Int.reduceSub,Int.reduceNeg,↓reduceIte,reduceCtorEq,hpl,hcl,c1,c2,c3,hps,l1,l2,hpt,hxm,if_false,if_true])
     (repeat' (first | (refine iteI (fun h=>?_) (fun h=>?_))|(refine Ak (by first | omega | (simp (disch:=omega) only [Aa,Ab,Ac] at *;omega)) ?_;intro b hb)|(refine And.intro (by first | omega | (simp (disch:=omega) only [Aa,Ab,Ac] at *;omega)) ?_)|((first | (refine Ah hm (by rfl) (by kernel_rfl) ?_)|(refine Det.use (hin) ?_)|(refine Det.useQ (hin) ?_)|(refine Ag.use (hin) ?_)|(refine Ad.use (hin) ?_)|(refine Det.use (ih) ?_)|(refine Det.useQ (ih) ?_)|(refine Ag.use (ih) ?_)|(refine Ad.use (ih) ?_)|(refine Det.use (hW) ?_)|(refine Det.useQ (hW) ?_)|(refine Ag.use (hW) ?_)|(refine Ad.use (hW) ?_));simp only [go_sem,Nat.reduceLT,Nat.reduceEqDiff,Int.reduceToNat,Int.reduceLE,↓reduceIte,reduceCtorEq])|(exact True.intro)|(exfalso;omega)))
     refine ⟨by intro z hz';rcases List.mem_cons.1 hz' with rfl | hz';(· rfl);exact Bp _ z hz',by omega,?_⟩
     (repeat' (first | (refine iteI (fun h=>?_) (fun h=>?_))|(refine Ak (by first | omega | (simp (disch:=omega) only [Aa,Ab,Ac] at *;omega)) ?_;intro b hb)|(refine And.intro (by first | omega | (simp (disch:=omega) only [Aa,Ab,Ac] at *;omega)) ?_)|((first | (refine Ah hm (by rfl) (by kernel_rfl) ?_)|(refine Det.use (hin) ?_)|(refine Det.useQ (hin) ?_)|(refine Ag.use (hin) ?_)|(refine Ad.use (hin) ?_)|(refine Det.use (ih) ?_)|(refine Det.useQ (ih) ?_)|(refine Ag.use (ih) ?_)|(refine Ad.use (ih) ?_)|(refine Det.use (hW) ?_)|(refine Det.useQ (hW) ?_)|(refine Ag.use (hW) ?_)|(refine Ad.use (hW) ?_));simp only [go_sem,Nat.reduceLT,Nat.reduceLeDiff,Nat.reduceEqDiff,Nat.reduceAdd,Int.reduceToNat,Int.reduceLE,↓reduceIte,reduceCtorEq])|(exact True.intro)|(exfalso;omega)))
     all_goals rfl
end Go.LX
set_option maxRecDepth 100000
set_option maxHeartbeats 2000000
namespace Go.LX
open Go Go.RowKit Go.Proofs
attribute [local irreducible] Al SWP Bi
theorem Ww {s:List UInt8} {m:Nat} (h1:m≤s.length) (h2:∀ j,j<m→H3 s j) (h3:m<s.length→¬ H3 s m):Dm s=m:=by
 have hle:=P3 s
 rcases Nat.lt_trichotomy (Dm s) m with h | h | h
 ·exact absurd (h2 _ h) (Jam (by omega))
 ·exact h
 ·exact absurd (Sh h) (h3 (by omega))
def Uy (r:List UInt8):Prop:=∀ c q,r=c :: q→c=46∨c=91
theorem Pc (p:List Step):Uy (Br p):=by
 intro c q h
 cases p with
 | nil=>cases h
 | cons x p =>
  have h':Bv x ++ Br p=c :: q:=h
  unfold Bv at h'
  split at h'
  ·exact .inr (List.cons.inj h').1.symm
  ·split at h'
   ·exact .inl (List.cons.inj h').1.symm
   ·exact .inl (List.cons.inj h').1.symm
theorem Je4 {nm:List UInt8} (h:isWd nm) {j:Nat} (hj:j<nm.length):H3 nm j:=Sh (by rw [h.2];exact hj)
theorem Jgz {a b:List UInt8} {j:Nat} (h:j<a.length):H3 (a ++ b) j ↔ H3 a j:=by unfold H3;rw [Jx h]
theorem Jeu {nm r:List UInt8} (h:isWd nm) (hr:Uy r):Dm (nm ++ r)=nm.length:=by
 refine Ww (by simp) (fun j hj=>(Jgz hj).2 (Je4 h hj)) fun hl=>?_
 rw [List.length_append] at hl
 unfold H3
 rw [Ib (Nat.le_refl _),Nat.sub_self]
 cases r with
 | nil=>simp at hl
 | cons c q =>
  rcases hr c q rfl with rfl | rfl
  ·rw [Gu];unfold letP figP;simp
  ·rw [Gu];unfold letP figP;simp
theorem Td {c:UInt8} {r:List UInt8} (h:¬ letP c.toNat):Dm (c :: r)=0:=by
 refine Ww (Nat.zero_le _) (fun j hj=>by omega) fun _=>?_
 unfold H3
 rw [Gu]
 rintro (h' | h')
 ·exact h h'
 ·omega
theorem Tg {x:Step} (hp:x.part=false) (hok:Bc x) {r:List UInt8} (hr:Uy r):Bw (Bv x ++ r)=(x,(Bv x).length):=by
 obtain ⟨part,nm,n⟩:=x
 simp only at hp;subst hp
 unfold Bc at hok
 rw [if_neg (by simp)] at hok
 obtain ⟨h1,h2⟩:=hok
 simp only at h1 h2;subst h1
 unfold Bv
 rw [if_neg (by simp)]
 by_cases hw:isWd nm
 ·rw [if_pos hw]
  unfold Bw
  have hl:0<nm.length:=by have:=hw.1;cases nm <;> simp at this ⊢
  simp only [List.cons_append,List.take_succ_cons,List.take_zero,List.drop_succ_cons,List.drop_zero,if_true]
  rw [Jeu hw hr,if_pos hl,List.take_left]
  rfl
 ·rw [if_neg hw]
  unfold Bw
  simp only [List.cons_append,List.take_succ_cons,List.take_zero,List.drop_succ_cons,List.drop_zero,if_true]
  have h0:Dm (refQ nm ++ r)=0:=Td (c:=34) (r:=wrs nm ++ [34] ++ r) (by unfold letP;simp)
  rw [h0,if_neg (by omega),Jow h2 r,if_neg]
  ·rfl
  ·simp only [ne_eq,List.take_left,not_true_eq_false,or_false,false_or]
   exact hw
theorem Xk:∀ (k m:Nat),m<10 ^ (k+1)→(Lib.decDigits m).length≤k+1
 | 0,m,h=>by
  rw [Fv,if_pos (by simpa using h)];simp
 | k+1,m,h=>by
  rw [Fv]
  split
  ·simp
  ·have:=Xk k (m / 10) (by rw [Nat.pow_succ] at h;omega)
   rw [List.length_append];simp;omega
theorem dg_93:¬ isDg (93:UInt8).toNat:=by unfold isDg;simp
theorem S8 {x:Step} (hp:x.part=true) (hok:Bc x) (r:List UInt8):Ce (Bv x ++ r)=(x,(Bv x).length):=by
 obtain ⟨part,nm,n⟩:=x
 simp only at hp;subst hp
 unfold Bc at hok
 rw [if_pos rfl] at hok
 obtain ⟨h1,h2,h3⟩:=hok
 simp only at h1 h2 h3;subst h1
 obtain ⟨m,rfl⟩:∃ m:Nat,n=m:=⟨n.toNat,by omega⟩
 unfold Bv
 rw [if_pos rfl]
 simp only [Lib.itoa_nonneg,List.cons_append,List.append_assoc,List.nil_append]
 have hl7:(Lib.decDigits m).length≤7:=Xk 6 m (by omega)
 have hd:dgR 7 (Lib.decDigits m ++ 93 :: r)=Lib.decDigits m:=Jkf _ _ 7 (Jmj m) hl7 fun c q h=>by
  cases h;exact dg_93
 have:=Jle (r:=Lib.decDigits m ++ 93 :: r) (by rw [hd];exact U6 m) (by
  rw [hd]
  rintro ⟨g1,g2⟩
  cases hdd:Lib.decDigits m with
  | nil=>exact U6 m hdd
  | cons c q =>
   rw [hdd,List.cons_append,Gu] at g1
   have:=(Jg0 m c q hdd g1).1
   subst this
   rw [hdd] at g2;simp at g2) (by rw [hd,Xc];omega) (by rw [hd];simp)
 rw [this,hd,Xc]
 congr 1
 simp
theorem uq_no {c:UInt8} {r:List UInt8} (h:c≠34):uq (c :: r)=([],0,1):=by
 have h0:at_ (c :: r) 0≠34:=by
  rw [Gu]
  exact fun e=>h (UInt8.toNat_inj.1 e)
 unfold uq
 rw [if_pos (.inr h0)]
theorem Jbv {r:List UInt8}:Bw (46 :: 91 :: r)=(Dv,0):=by
 unfold Bw
 simp only [List.take_succ_cons,List.take_zero,List.drop_succ_cons,List.drop_zero,if_true]
 rw [Td (by unfold letP;simp),if_neg (by omega),uq_no (by decide)]
 simp
theorem Jj1 {r:List UInt8}:Bw (91 :: r)=(Dv,0):=by
 unfold Bw
 rw [if_neg (by simp)]
theorem P4 {x:Step} (hp:x.part=true):∃ r,Bv x=91 :: r:=by
 unfold Bv;rw [if_pos hp];exact ⟨_,rfl⟩
theorem Jg8 {s:List UInt8} {i:Nat} {x:Step} {r:List UInt8} (hi:0<i) (hok:Bc x) (hr:Uy r) (h:s.drop i=Bv x ++ r):Ee s i=(x,(Bv x).length):=by
 have hpos:=Kx x
 unfold Ee
 rw [h]
 cases hp:x.part with
 | false =>
  rw [Tg hp hok hr,if_pos (by simp only;omega)]
 | true =>
  obtain ⟨q,hq⟩:=P4 hp
  have e:Bw (Bv x ++ r)=(Dv,0):=by rw [hq];exact Jj1
  rw [e,if_neg (by simp),if_neg (by omega),S8 hp hok r]
theorem Ok:∀ (q:List Step) (s:List UInt8) (f i:Nat) (p:List Step),s.drop i=Br q→i≤s.length→0<i→p.length+q.length≤20→(∀ x∈q,Bc x)→q.length≤f→Fl s f i p=(p ++ q,s.length)
 | [],s,f,i,p,h,hi,_,_,_,_=>by
  have hl:=congrArg List.length h
  simp [Br] at hl
  rw [Gv (by omega),List.append_nil]
  congr 1;omega
 | x :: q,s,0,i,p,_,_,_,_,_,hf=>by simp at hf
 | x :: q,s,f+1,i,p,h,hi,h0,hl,hok,hf=>by
  have h':s.drop i=Bv x ++ Br q:=h
  have hx:=hok x List.mem_cons_self
  have hn:=Jg8 h0 hx (Pc q) h'
  have hpos:=Kx x
  have hlen:=congrArg List.length h'
  rw [List.length_drop,List.length_append] at hlen
  simp only [List.length_cons] at hl hf
  rw [Fl,if_pos ⟨by omega,by omega,by rw [hn];simp only;omega⟩,hn]
  simp only
  rw [Ok q s f (i+(Bv x).length) (p ++ [x]) (by rw [← List.drop_drop,h',List.drop_left]) (by omega) (by omega) (by simp;omega) (fun y hy=>hok y (List.mem_cons_of_mem _ hy)) (by omega)]
  simp
theorem Jfe (p:List Step):p.length≤(Br p).length:=by
 induction p with
 | nil=>exact Nat.le_refl _
 | cons x p ih =>
  have:=Kx x
  have e:Br (x :: p)=Bv x ++ Br p:=rfl
  rw [e,List.length_append,List.length_cons];omega
theorem Jgn {x:Step} (hok:Bc x):2≤(Bv x).length:=by
 unfold Bv
 split
 ·simp
 ·split
  ·rename_i h
   have:=h.1
   cases hn:x.name with
   | nil=>exact absurd hn this
   | cons c r=>simp
  ·have:=R9 x.name
   simp;omega
theorem Jft {p:List Step} (h:E9 p):Je (Hy p)=(p,0,0):=by
 obtain ⟨hl,hok⟩:=h
 cases p with
 | nil=>rfl
 | cons x q =>
  have hx:=hok x List.mem_cons_self
  have h2:=Jgn hx
  have hq:=Jfe q
  simp only [List.length_cons] at hl
  have e:Br (x :: q)=Bv x ++ Br q:=rfl
  cases hp:x.part with
  | false =>
   have hT:Hy (x :: q)=Bv x ++ Br q:=by
    show (if x.part=true then _ else _)=_
    rw [if_neg (by rw [hp];simp),e]
   rw [hT]
   unfold Je
   have hne:Bv x ++ Br q≠[46]:=fun e=>by
    have:=congrArg List.length e
    rw [List.length_append] at this
    simp only [List.length_cons,List.length_nil] at this;omega
   have hL:Mp (Bv x ++ Br q)=(x :: q,(Bv x ++ Br q).length):=by
    have hn:Ee (Bv x ++ Br q) 0=(x,(Bv x).length):=by
     unfold Ee
     rw [List.drop_zero,Tg hp hx (Pc q),if_pos (by simp only;omega)]
    unfold Mp
    rw [Fl,if_pos ⟨by rw [List.length_append];omega,by simp,by rw [hn];simp only;omega⟩,hn]
    simp only [List.nil_append,Nat.zero_add]
    rw [Ok q _ _ _ [x] (by rw [List.drop_left]) (by rw [List.length_append];omega) (by omega) (by simp;omega) (fun y hy=>hok y (List.mem_cons_of_mem _ hy)) (by rw [List.length_append];omega)]
    rfl
   rw [if_neg hne,hL,if_neg (by simp)]
  | true =>
   have hT:Hy (x :: q)=46 :: (Bv x ++ Br q):=by
    show (if x.part=true then _ else _)=_
    rw [if_pos hp,e]
   rw [hT]
   unfold Je
   obtain ⟨z,hz⟩:=P4 hp
   have hne:46 :: (Bv x ++ Br q)≠[46]:=fun e=>by
    have:=congrArg List.length e
    rw [List.length_cons,List.length_append] at this
    simp only [List.length_cons,List.length_nil] at this;omega
   have hL:Mp (46 :: (Bv x ++ Br q))=(x :: q,(46 :: (Bv x ++ Br q)).length):=by
    have hn:Ee (46 :: (Bv x ++ Br q)) 0=(x,(Bv x).length+1):=by
     have hf:Bw (46 :: (Bv x ++ Br q))=(Dv,0):=by rw [hz];exact Jbv
     unfold Ee
     rw [List.drop_zero,hf,if_neg (by simp),if_pos rfl,List.drop_succ_cons,List.drop_zero,S8 hp hx,if_pos ⟨rfl,by simp only;omega⟩]
    unfold Mp
    rw [Fl,if_pos ⟨by simp,by simp,by rw [hn];simp⟩,hn]
    simp only [List.nil_append,Nat.zero_add]
    rw [Ok q _ _ _ [x] (by rw [List.drop_succ_cons,List.drop_left]) (by simp) (by omega) (by simp;omega) (fun y hy=>hok y (List.mem_cons_of_mem _ hy)) (by simp;omega)]
    rfl
   rw [if_neg hne,hL,if_neg (by simp)]
end Go.LX
set_option maxRecDepth 100000
set_option maxHeartbeats 2000000
namespace Go.LX
open Go Go.RowKit Go.Proofs
attribute [local irreducible] Al SWP Bi
def Ih (v:List Node):Bool:=v.all fun n=>decide (n.s.length≤200) && decide (n.name.length≤200)
noncomputable def fewB (v:List Node) (m:Nat):Bool:=decide (v.length≤m) && (Ih v && Jw v)
structure EFit (n:Node):Prop where
 s:n.s.length≤9223372036854775807
 name:n.name.length≤9223372036854775807
 e0:-9223372036854775808≤n.e
 e1:n.e≤9223372036854775807
theorem Jbf {v:List Node} {i:Nat} {n:Node} (h:v[i]? = some n):Ih (v.take (i+1))=(Ih (v.take i) && (decide (n.s.length≤200) && decide (n.name.length≤200))):=by
 unfold Ih
 rw [List.take_add_one,h,List.all_append];simp
theorem Y1 {v:List Node} {i:Nat} {n:Node} (h:v[i]? = some n) (hn:¬ (n.s.length≤200∧n.name.length≤200)):Ih v=false:=by
 unfold Ih
 rw [List.all_eq_false]
 exact ⟨n,List.mem_of_getElem? h,by simpa using hn⟩
theorem Ln (v:List Node) (m:Nat) (hm':m≤1000) (hv:v.length≤9223372036854775807) (hf:∀ n∈v,EFit n):Det cx 23 [.p (.sl (valL v)),.p (.int .i64 m)] [] (.p (.bool (fewB v m))) []:=by
 by_cases hl:v.length≤m
 ·have c0:((m:Int)<(v.length:Int))=False:=eq_false (by omega)
  skip
  (refine Al.of_code (X:=cx) false [] (by simp) Tryz.func23 (by kernel_rfl) rfl (by simp only [List.length_cons,List.length_nil,Tryz.ntmps23];decide) (by simp) ?_;refine Ae hm _ _ _ ?_;simp only [Tryz.ntmps23,Tryz.results23,go_sem,Nat.reduceLT,Nat.reduceLeDiff,Nat.reduceEqDiff,Nat.reduceAdd,Nat.reduceSub,Nat.reduceMul,Nat.reduceBEq,Int.reduceToNat,Int.reduceLT,Int.reduceLE,Int.reduceEq,Int.reduceAdd,Int.reduceSub,Int.reduceNeg,↓reduceIte,reduceCtorEq,A7,c0,if_true,if_false])
  (repeat' (first | (refine iteI (fun h=>?_) (fun h=>?_))|(refine Ak (by first | omega | (simp (disch:=omega) only [Aa,Ab,Ac] at *;omega)) ?_;intro b hb)|(refine And.intro (by first | omega | (simp (disch:=omega) only [Aa,Ab,Ac] at *;omega)) ?_)|((first | (refine Ah hm (by rfl) (by kernel_rfl) ?_));simp only [go_sem])|(exact True.intro)|(exfalso;omega)))
  refine SWP.loop (fun i:Nat=>⟨Ba 34 [(0,.p (.sl (valL v))),(1,.p (.int .i64 m)),(5,.p (.int .i64 i))],[]⟩) (fun i=>i≤v.length∧Ih (v.take i)=true) (fun i=>v.length - i) 0 (St.le_slots (by simp only [Ap,Ar,Ao,Aj,Af,Nat.reduceEqDiff,reduceIte,Nat.reduceLT,Nat.reduceLeDiff];simp (disch:=omega) [Af,Ai,Au,Aa] <;> (repeat' apply And.intro) <;> omega) (by simp (disch:=omega) [Az,A3,Aw,Am,Af,Ai,Au,Aa]) (by simp [Ay])) ⟨Nat.zero_le _,rfl⟩ ?_
  rintro i ⟨h1,h2⟩
  by_cases hi:¬ i<v.length
  ·have c1:((i:Int)<(v.length:Int))=False:=eq_false (by omega)
   rw [List.take_of_length_le (by omega)] at h2
   have hfit:∀ n∈v,NodeFit n:=fun n hn=>by
    have h3:=h2
    unfold Ih at h3
    have:=List.all_eq_true.1 h3 n hn
    simp only [Bool.and_eq_true,decide_eq_true_eq] at this
    exact ⟨by omega,by omega,(hf n hn).e0,(hf n hn).e1⟩
   have hg:=c1
   have w1:=c1
   skip
   (refine Ae hm _ _ _ ?_;simp only [go_sem,Nat.reduceLT,Nat.reduceEqDiff,↓reduceIte,reduceCtorEq,A7,c1])
   (repeat' (first | (refine iteI (fun h=>?_) (fun h=>?_))|(refine Ak (by first | omega | (simp (disch:=omega) only [Aa,Ab,Ac] at *;omega)) ?_;intro b hb)|(refine And.intro (by first | omega | (simp (disch:=omega) only [Aa,Ab,Ac] at *;omega)) ?_)|((first | (refine Ah hm (by rfl) (by kernel_rfl) ?_)|(refine Det.use (Jp v (by omega) hfit) ?_)|(refine Det.useQ (Jp v (by omega) hfit) ?_));simp only [go_sem,Nat.reduceLT,↓reduceIte])|(exact True.intro)|(exfalso;omega)))
   unfold fewB
   rw [decide_eq_true hl,h2];simp
  ·have hi:=Decidable.not_not.1 hi
   have c1:((i:Int)<(v.length:Int))=True:=eq_true (by omega)
   obtain ⟨n,hn⟩:∃ n,v[i]? = some n:=⟨_,List.getElem?_eq_getElem hi⟩
   have hg:=U5 hn
   have w1:=wj1 (i:=i) (by omega)
   have hfn:=hf n (List.mem_of_getElem? hn)
   have hsn:=hfn.s
   have hnn:=hfn.name
   (refine Ae hm _ _ _ ?_;simp only [go_sem,Nat.reduceLT,Nat.reduceLeDiff,Nat.reduceEqDiff,Nat.reduceAdd,↓reduceIte,reduceCtorEq,A7,c1,hg,w1])
   (repeat' (first | (refine iteI (fun h=>?_) (fun h=>?_))|(refine Ak (by first | omega | (simp (disch:=omega) only [Aa,Ab,Ac] at *;omega)) ?_;intro b hb)|(refine And.intro (by first | omega | (simp (disch:=omega) only [Aa,Ab,Ac] at *;omega)) ?_)|((first | (refine Ah hm (by rfl) (by kernel_rfl) ?_));simp only [go_sem])|(exact True.intro)|(exfalso;omega)))
   all_goals first
    | (
     refine ⟨i+1,⟨by omega,?_⟩,by omega,(St.le_slots (by simp only [Ap,Ar,Ao,Aj,Af,Nat.reduceEqDiff,reduceIte,Nat.reduceLT,Nat.reduceLeDiff];simp (disch:=omega) [Af,Ai,Au,Aa] <;> (repeat' apply And.intro) <;> omega) (by simp (disch:=omega) [Az,A3,Aw,Am,Af,Ai,Au,Aa]) (by simp [Ay]))⟩
     rw [Jbf hn,h2]
     simp;omega)
    | (
     unfold fewB
     rw [Y1 hn (by omega)];simp)
 ·have c0:((m:Int)<(v.length:Int))=True:=eq_true (by omega)
  have c1:=c0
  have hg:=c0
  have w1:=c0
  (refine Al.of_code (X:=cx) false [] (by simp) Tryz.func23 (by kernel_rfl) rfl (by simp only [List.length_cons,List.length_nil,Tryz.ntmps23];decide) (by simp) ?_;refine Ae hm _ _ _ ?_;simp only [Tryz.ntmps23,Tryz.results23,go_sem,Nat.reduceLT,Nat.reduceLeDiff,Nat.reduceEqDiff,Nat.reduceAdd,Nat.reduceSub,Nat.reduceMul,Nat.reduceBEq,Int.reduceToNat,Int.reduceLT,Int.reduceLE,Int.reduceEq,Int.reduceAdd,Int.reduceSub,Int.reduceNeg,↓reduceIte,reduceCtorEq,A7,c0,if_true,if_false,c1,hg,w1])
  (repeat' (first | (refine iteI (fun h=>?_) (fun h=>?_))|(refine Ak (by first | omega | (simp (disch:=omega) only [Aa,Ab,Ac] at *;omega)) ?_;intro b hb)|(refine And.intro (by first | omega | (simp (disch:=omega) only [Aa,Ab,Ac] at *;omega)) ?_)|((first | (refine Ah hm (by rfl) (by kernel_rfl) ?_));simp only [go_sem])|(exact True.intro)|(exfalso;omega)))
  unfold fewB
  rw [decide_eq_false hl];simp
theorem Jnl {v:List Node} {m:Nat}:fewB v m=true ↔ v.length≤m∧(∀ n∈v,n.s.length≤200∧n.name.length≤200)∧∃ t,okT t∧v=t.enc []:=by
 unfold fewB Ih
 rw [Bool.and_eq_true,Bool.and_eq_true,decide_eq_true_eq,Iq,List.all_eq_true]
 simp only [Bool.and_eq_true,decide_eq_true_eq]
 rfl
end Go.LX
set_option maxRecDepth 100000
set_option maxHeartbeats 2000000
namespace Go.LX
open Go Go.RowKit Go.Proofs
attribute [local irreducible] Al SWP Bi
def tOne:Tree:=.mk 2 [] false 0 .nil
def tTwo:Tree:=.mk 5 [] false 0 (.cons [] tOne (.cons [] tOne .nil))
def tObj:Tree:=.mk 6 [] false 0 (.cons [97] tTwo .nil)
def tSet:Tree:=.mk 6 [] false 0 (.cons [97] tOne .nil)
def ndL (k m:Int) (nm:List UInt8):List PV:=[.int .i64 k,.int .i64 m,.str nm,.str [],.bool false,.int .i64 0]
theorem vOne:valL (tOne.enc [])=[ndL 2 0 []]:=by simp [tOne,A6,Bl,valL,Node.cells,ndL,Forest.len]
theorem vTwo:valL (tTwo.enc [])=[ndL 5 2 [],ndL 2 0 [],ndL 2 0 []]:=by simp [tTwo,tOne,A6,A0,Bl,valL,Node.cells,ndL,Forest.len]
theorem vObj:valL (tObj.enc [])=[ndL 6 1 [],ndL 5 2 [97],ndL 2 0 [],ndL 2 0 []]:=by simp [tObj,tTwo,tOne,A6,A0,Bl,valL,Node.cells,ndL,Forest.len]
theorem vSet:valL (tSet.enc [])=[ndL 6 1 [],ndL 2 0 [97]]:=by simp [tSet,tOne,A6,A0,Bl,valL,Node.cells,ndL,Forest.len]
theorem vNil:valL ((Tree.mk 6 [] false 0 .nil).enc [])=[ndL 6 0 []]:=by simp [A6,Bl,valL,Node.cells,ndL,Forest.len]
theorem Jh2:okT tOne:=by unfold tOne;rw [Lu];exact ⟨by decide,Sb _,I6⟩
theorem okTwo:okT tTwo:=by
 unfold tTwo;rw [Lu]
 refine ⟨by decide,⟨fun _ p hp=>?_,fun p hp=>?_,by simp⟩,Fs.2 ⟨Jh2,Fs.2 ⟨Jh2,I6⟩⟩⟩
 ·simp [Forest.list] at hp;rcases hp with rfl | rfl <;> rfl
 ·simp [Forest.list] at hp;rcases hp with rfl | rfl <;> decide +kernel
theorem okObj:okT tObj:=by
 unfold tObj;rw [Lu]
 refine ⟨by decide,⟨by simp,fun p hp=>?_,fun _=>List.pairwise_singleton _ _⟩,Fs.2 ⟨okTwo,I6⟩⟩
 simp [Forest.list] at hp;subst hp;decide +kernel
def pA:List Step:=[⟨false,[97],0⟩,⟨true,[],0⟩,⟨false,[98,32,99],0⟩]
def sA:List UInt8:=[46,97,91,48,93,46,34,98,32,99,34]
theorem okA:∀ x∈pA,Bc x:=by
 intro x hx
 simp [pA] at hx
 rcases hx with rfl | rfl | rfl <;> (unfold Bc;decide +kernel)
theorem lenA:∀ x∈pA,x.name.length≤1000:=by
 intro x hx
 simp [pA] at hx
 rcases hx with rfl | rfl | rfl <;> simp
theorem txA:Hy pA=sA:=by decide +kernel
theorem rdA:Je sA=(pA,0,0):=by rw [← txA];exact Jft ⟨by simp [pA],okA⟩
theorem rdB:Je [46,97,46]=([],2,1):=by decide +kernel
def lA:List (List PV):=[[.bool false,.str [97],.int .i64 0],[.bool true,.str [],.int .i64 0],[.bool false,.str [98,32,99],.int .i64 0]]
theorem Jou:Det cx 16 [.p (.str sA)] [] (.tup [.sl lA,.int .i64 0,.int .i64 0]) []:=by
 have:=Jjx sA (by decide)
 rw [rdA] at this;exact this
theorem Jd8:Det cx 16 [.p (.str [46,97,46])] [] (.tup [.sl [],.int .i64 2,.int .i64 1]) []:=by
 have:=Jjx [46,97,46] (by decide)
 rw [rdB] at this;exact this
theorem c_list:Det cx 46 [.p (.sl [[.sl [ndL 2 0 []]],[.sl [ndL 2 0 []]]])] [] (.p (.sl [ndL 5 2 [],ndL 2 0 [],ndL 2 0 []])) []:=by
 have:=Tt [([],tOne),([],tOne)] (by simp [unn,A1,A0,Bl,tOne,A6])
 rw [show A4 [([],tOne),([],tOne)]=[[.sl (valL (tOne.enc []))],[.sl (valL (tOne.enc []))]] from rfl,vOne,show Tree.mk 5 [] false 0 (A1 (unn [([],tOne),([],tOne)]))=tTwo from rfl,vTwo] at this
 exact this
theorem c_with:Det cx 45 [.p (.sl [ndL 6 0 []]),.p (.str [97]),.p (.sl [ndL 5 2 [],ndL 2 0 [],ndL 2 0 []])] [] (.p (.sl [ndL 6 1 [],ndL 5 2 [97],ndL 2 0 [],ndL 2 0 []])) []:=by
 have:=Tl [] [] false 0 .nil [97] tTwo (by simp [Bl]) (by rw [← A7,vTwo];simp) .nil (by simp [Forest.list]) (by simp [Forest.list]) (by simp) (by decide +kernel)
 rw [vNil,vTwo,show Tree.mk 6 [] false 0 (A1 (putL [97] tTwo (A8 [97] Forest.nil.list)))=tObj from rfl,vObj] at this
 exact this
theorem c_get:Det cx 24 [.p (.sl [[.bool false,.str [97],.int .i64 0],[.bool true,.str [],.int .i64 1]]),.p (.sl [ndL 6 1 [],ndL 5 2 [97],ndL 2 0 [],ndL 2 0 []])] [] (.tup [.sl [ndL 2 0 []],.int .i64 0]) []:=by
 have:=M1 [⟨false,[97],0⟩,⟨true,[],1⟩] tObj (by simp) (by
  intro x hx
  simp at hx
  rcases hx with rfl | rfl <;> (unfold Bc;decide +kernel)) (by rw [← A7,vObj];simp)
 rw [vObj,show getT [⟨false,[97],0⟩,⟨true,[],1⟩] tObj=.ok tOne from rfl] at this
 unfold getR at this
 simp only [vOne] at this
 exact this
theorem c_set:Det cx 26 [.p (.sl [[.bool false,.str [97],.int .i64 0]]),.p (.sl [ndL 6 1 [],ndL 5 2 [97],ndL 2 0 [],ndL 2 0 []]),.p (.sl [ndL 2 0 []])] [] (.tup [.sl [ndL 6 1 [],ndL 2 0 [97]],.int .i64 0]) []:=by
 have:=L8 [⟨false,[97],0⟩] tObj tOne (by simp) (by
  intro x hx
  simp at hx
  subst hx;unfold Bc;decide +kernel) okObj Jh2 (by rw [← A7,vObj,← A7,vOne];simp)
 rw [vObj,show setT [⟨false,[97],0⟩] tObj tOne=.ok tSet from rfl] at this
 unfold getR at this
 simp only [vOne,vSet] at this
 exact this
theorem c_text:Det cx 21 [.p (.sl lA)] [] (.p (.str sA)) []:=by
 have:=Ui pA (by simp [pA]) okA lenA
 rw [txA] at this;exact this
theorem c_same:Det cx 28 [.p (.sl [ndL 2 0 []]),.p (.sl [ndL 2 0 []])] [] (.p (.bool true)) []:=by
 have:=E2 (tOne.enc []) (tOne.enc []) (by rw [← A7,vOne];simp) (by rw [← A7,vOne];simp)
 rw [vOne,decide_eq_true rfl] at this;exact this
theorem Jm2:Det cx 19 [.p (.sl lA)] [] (.p (.bool true)) []:=by
 have:=Jny pA (fun x hx=>by have:=lenA x hx;omega)
 rw [decide_eq_true (show E9 pA from ⟨by simp [pA],okA⟩)] at this
 exact this
theorem Jor:Det cx 29 [.p (.sl lA),.p (.sl [[.bool false,.str [98],.int .i64 0]])] [] (.p (.bool true)) []:=by
 have:=I7 pA [⟨false,[98],0⟩] (by simp [pA]) (by simp) (fun x hx=>by have:=lenA x hx;omega) (by simp)
 rw [Fc,show B7 pA [⟨false,[98],0⟩]=true from by decide +kernel] at this
 exact this
theorem Av:Det cx 15 [] [] (.p (.bool true)) []:=by
 have r1:=Jou
 have r2:=c_list
 have r3:=c_with
 have r4:=c_get
 have r5:=c_set
 have r6:=c_text
 have r7:=c_same
 have r8:=Jm2
 have r9:=Jor
 unfold sA at r1 r6
 unfold lA at r1 r6 r8 r9
 unfold ndL at r2 r3 r4 r5 r7
 (refine Al.of_code (X:=cx) false [] (by simp) Tryz.func15 (by kernel_rfl) rfl (by simp only [List.length_cons,List.length_nil,Tryz.ntmps15];decide) (by simp) ?_;refine Ae hm _ _ _ ?_;simp only [Tryz.ntmps15,Tryz.results15,go_sem,Nat.reduceLT,Nat.reduceLeDiff,Nat.reduceEqDiff,Nat.reduceAdd,Nat.reduceSub,Nat.reduceMul,Nat.reduceBEq,Int.reduceToNat,Int.reduceLT,Int.reduceLE,Int.reduceEq,Int.reduceAdd,Int.reduceSub,Int.reduceNeg,↓reduceIte,reduceCtorEq])
 (repeat' (first | (refine iteI (fun h=>?_) (fun h=>?_))|(refine Ak (by first | omega | (simp (disch:=omega) only [Aa,Ab,Ac] at *;omega)) ?_;intro b hb)|(refine And.intro (by first | omega | (simp (disch:=omega) only [Aa,Ab,Ac] at *;omega)) ?_)|((first | (refine Ah hm (by rfl) (by kernel_rfl) ?_)|(refine Det.use (r1) ?_)|(refine Det.useQ (r1) ?_)|(refine Ag.use (r1) ?_)|(refine Ad.use (r1) ?_)|(refine Det.use (Jd8) ?_)|(refine Det.useQ (Jd8) ?_)|(refine Det.use (r2) ?_)|(refine Det.useQ (r2) ?_)|(refine Ag.use (r2) ?_)|(refine Ad.use (r2) ?_)|(refine Det.use (r3) ?_)|(refine Det.useQ (r3) ?_)|(refine Ag.use (r3) ?_)|(refine Ad.use (r3) ?_)|(refine Det.use (r4) ?_)|(refine Det.useQ (r4) ?_)|(refine Ag.use (r4) ?_)|(refine Ad.use (r4) ?_)|(refine Det.use (r5) ?_)|(refine Det.useQ (r5) ?_)|(refine Ag.use (r5) ?_)|(refine Ad.use (r5) ?_)|(refine Det.use (r6) ?_)|(refine Det.useQ (r6) ?_)|(refine Ag.use (r6) ?_)|(refine Ad.use (r6) ?_)|(refine Det.use (r7) ?_)|(refine Det.useQ (r7) ?_)|(refine Ag.use (r7) ?_)|(refine Ad.use (r7) ?_)|(refine Det.use (r8) ?_)|(refine Det.useQ (r8) ?_)|(refine Ag.use (r8) ?_)|(refine Ad.use (r8) ?_)|(refine Det.use (r9) ?_)|(refine Det.useQ (r9) ?_)|(refine Ag.use (r9) ?_)|(refine Ad.use (r9) ?_));simp only [go_sem,Nat.reduceLT,Nat.reduceLeDiff,Nat.reduceEqDiff,Nat.reduceAdd,Nat.reduceMul,↓reduceIte])|(exact True.intro)|(exfalso;omega)))
end Go.LX
set_option maxRecDepth 100000
set_option maxHeartbeats 2000000
namespace Go.LX
open Go Go.RowKit Go.Proofs
attribute [local irreducible] Al SWP Bi
structure PathFit (p:List Step):Prop where
 len:p.length≤140737488355328
 name:∀ x∈p,x.name.length≤140737488355328
end Go.LX
