/- Paths: something else set. -/
import Derived.Test.YtmejkfclabmijaaGreatDoorPathTextsLxZF
import Derived.Test.YtmejkfclabmijaaGreatDoorPathTextsLxZG
set_option linter.unusedSimpArgs false
set_option linter.unusedVariables false
set_option linter.unusedSectionVars false
set_option linter.unnecessarySimpa false
set_option maxRecDepth 100000
set_option maxHeartbeats 2000000
namespace Go.LX
open Go Go.RowKit Go.Proofs
attribute [local irreducible] B2 SWP Hb
theorem d_List (l:List (List UInt8×Tree)) (hv:(Ej (unn l)).enc.length≤900000):Det cx 63 [.p (.sl (E3 l))] [] (.p (.sl (valL ((Tree.mk 5 [] false 0 (Ej (unn l))).enc [])))) []:=by
 have hll:=Forest.len_le (Ej (unn l))
 rw [Kk,Wc] at hll
 have c1:(1+(Ej (unn l)).enc.length≤(Ej (unn l)).enc.length+1)=True:=eq_true (by omega)
 have t1:∀ h:List PV,(h :: valL (Ej (unn l)).enc).take (1+(Ej (unn l)).enc.length)=h :: valL (Ej (unn l)).enc:=fun h=>List.take_of_length_le (by simp;omega)
 skip
 (refine B2.of_code (X:=cx) false [] (by simp) Tryz.func63 (by kernel_rfl) rfl (by simp only [List.length_cons,List.length_nil,Tryz.ntmps63];decide) (by simp) ?_;refine Ax hm _ _ _ ?_;simp only [Tryz.ntmps63,Tryz.results63,Ah,Bm,Ab,Bd,A1,Bc,Ct,Bf,A0,Ch,Ca,E4,A9,Aj,Ka,Dw,Df,Cg,Bo,Ds,D4,Jb,Jc,J9,Hr,Io,Mh,Cu,E5,Ag,Ae,A3,Cf,Bv,Bi,Bz,Bx,A4,B6,Bh,Az,A5,Ht,Ji,Il,Dg,Jg,Gp,Gr,Gs,Gu,Hu,Ho,B4,Ez,Cl,C7,El,Cz,F1,Ad,Ac,Bn,Bg,Bb,argW,List.map_cons,List.map_nil,List.length_cons,List.length_nil,List.append_nil,List.flatMap_cons,List.flatMap_nil,List.set_cons_zero,List.set_cons_succ,Nat.reduceLT,Nat.reduceLeDiff,Nat.reduceEqDiff,Nat.reduceAdd,Nat.reduceMul,true_and,Cc,Bw,↓reduceIte,reduceCtorEq,Nat.zero_add,Bool.true_and,Bool.and_true,beq_self_eq_true,and_self,Mm,Kc,Ps,Lm,Lb,Z5,Sd,Fo])
 (repeat' (first | (refine iteI (fun h=>?_) (fun h=>?_))|(refine B1 (by first | omega | (simp (disch:=omega) only [Aa,Ak,Ai] at *;omega)) ?_;intro b hb)|(refine And.intro (by first | omega | (simp (disch:=omega) only [Aa,Ak,Ai] at *;omega)) ?_)|((first | (refine Ba hm (by rfl) (by kernel_rfl) ?_)|(refine Det.use (Jkm l hv) ?_)|(refine Det.useQ (Jkm l hv) ?_));simp only [Cn,Ab,Bd,A1,Bc,Ct,Bf,Aj,F8,Bo,Cu,G6,Ag,Ae,E6,Fu,En,F4,Bp,B6,Il,Hc,F5,P9,Me,Gg,Kz,Bs,Cs,Cr,A6,A7,B9,Av,Ap,Al,B7,B5,Af,Am,Ao,Co,Ay,Aw,B4,C4,Dx,Dk,Ez,G7,Ga,I9,Te,G9,A2,Ad,Ac,Bn,C6,Bg,Bb,List.length_cons,List.length_nil,List.cons_append,List.nil_append,List.drop_zero,Nat.reduceLT,Nat.reduceEqDiff,Nat.reduceAdd,true_and,and_true,Cc,↓reduceIte,Nat.zero_add,L.p.injEq,Bool.true_and,Bool.and_true,Kc,Sd,Yv,Js,c1,t1])|(exact True.intro)|(exfalso;omega)))
 (repeat' (first | (refine And.intro (by first | omega | (simp;done)|(simp;omega) | exact Pk _) ?_)))
 rw [Gx,Kk,Wc]
 rfl
theorem Jq7 (l:List (List UInt8×Tree)) (n:Nat) (y:Tree):(E3 l).set n [.sl (valL (y.enc []))]=E3 (l.set n ([],y)):=by simp [E3,List.map_set]
theorem Jl2 {l:List KT} {i:Nat} {y:Tree}:(Ej (unn (l.set i ([],y)))).enc.length≤(Ej l).enc.length+(y.enc []).length:=by
 induction l generalizing i with
 | nil=>simp [unn,Ej,J1]
 | cons p l ih =>
  have hl:∀ l:List KT,(Ej (unn l)).enc.length=(Ej l).enc.length:=by
   intro l
   induction l with
   | nil=>rfl
   | cons q l ih =>
    unfold unn at ih ⊢
    simp only [List.map_cons,Ej,E9,List.length_append,ih,R8 _ q.1]
  cases i with
  | zero =>
   rw [hl]
   simp only [List.set_cons_zero,Ej,E9,List.length_append];omega
  | succ i =>
   have:=ih (i:=i)
   rw [hl] at this ⊢
   simp only [List.set_cons_succ,Ej,E9,List.length_append];omega
theorem putT_5 {s:List UInt8} {g:Bool} {e:Int} {kids:Forest} {x:Step} {y:Tree} (hp:x.part=true):putT (.mk 5 s g e kids) x y=.mk 5 [] false 0 (Ej (unn (kids.list.set x.n.toNat ([],y)))):=by
 show (if x.part=true then nd 5 _ else _)=_
 rw [if_pos hp];rfl
theorem putT_6 {s:List UInt8} {g:Bool} {e:Int} {kids:Forest} {x:Step} {y:Tree} (hp:x.part=false):putT (.mk 6 s g e kids) x y=.mk 6 [] false 0 (Ej (putL x.name y (Fg x.name kids.list))):=by
 show (if x.part=true then _ else nd 6 _)=_
 rw [if_neg (by simp [hp])];rfl
theorem Jq6 (t u:Tree):Det cx 26 [.p (.sl (Gm [])),.p (.sl (valL (t.enc []))),.p (.sl (valL (u.enc [])))] [] (getR (setT [] t u)) []:=by
 have hpe:Gm []=[]:=rfl
 skip
 (refine B2.of_code (X:=cx) false [] (by simp) Tryz.func26 (by kernel_rfl) rfl (by simp only [List.length_cons,List.length_nil,Tryz.ntmps26];decide) (by simp) ?_;refine Ax hm _ _ _ ?_;simp only [Tryz.ntmps26,Tryz.results26,Cb,Ah,Bm,Br,Cn,Ab,B3,Bd,A1,Bc,Bf,A0,Ca,E4,A9,Aj,B8,Cv,Dw,Bq,Au,Bt,Ar,G0,Ds,D4,Cj,Ei,Ag,Ae,A3,Bs,Cs,Cr,A6,A7,B9,Av,Ap,Al,B7,B5,Af,Am,Ao,Cy,Ay,A2,Ad,Ac,argW,List.map_cons,List.map_nil,List.length_nil,List.getElem?_nil,beq_iff_eq,Nat.reduceLT,Nat.reduceEqDiff,Nat.reduceAdd,Int.reduceToNat,Int.reduceLE,true_and,and_true,Cc,↓reduceIte,reduceCtorEq,Nat.zero_add,Bool.true_and,Bool.and_true,Bool.or_true,Ir,J8,hpe])
 (repeat' (first | (refine iteI (fun h=>?_) (fun h=>?_))|(refine B1 (by first | omega | (simp (disch:=omega) only [Aa,Ak,Ai] at *;omega)) ?_;intro b hb)|(refine And.intro (by first | omega | (simp (disch:=omega) only [Aa,Ak,Ai] at *;omega)) ?_)|((first | (refine Ba hm (by rfl) (by kernel_rfl) ?_));simp only [Dh])|(exact True.intro)|(exfalso;omega)))
 rfl
theorem Jrr {p:List Step} {t u:Tree} {e:Nat} (h:setT p t u=.error e):e=5∨e=6:=by
 rw [Jpn] at h
 induction p generalizing t with
 | nil=>cases h
 | cons x p ih =>
  rw [getT] at h
  cases hi:inT t x with
  | error e'=>rw [hi] at h;cases h;exact Jhq hi
  | ok w=>rw [hi] at h;exact ih h
theorem d_Set:∀ (p:List Step) (t u:Tree),p.length≤1000→(∀ x∈p,Fw x)→okT t→okT u→(t.enc []).length+(u.enc []).length≤200000→Det cx 26 [.p (.sl (Gm p)),.p (.sl (valL (t.enc []))),.p (.sl (valL (u.enc [])))] [] (getR (setT p t u)) []
 | [],t,u,hp,hok,ht,hu,hs=>Jq6 t u
 | x :: p,t,u,hp,hok,ht,hu,hs=>by
  have hx:=hok x List.mem_cons_self
  have hpl:Gm (x :: p)=[.bool x.part,.str x.name,.int .i64 x.n] :: Gm p:=rfl
  have hcl:((((Gm p).length+1:Nat):Int)=0)=False:=eq_false (by omega)
  have hin:=d_in t x (by omega) hx
  simp only [List.length_cons] at hp
  cases hi:inT t x with
  | error e =>
   rw [hi] at hin
   unfold getR at hin
   have he:=Jhq hi
   have c1:((e:Int)=0)=False:=eq_false (by omega)
   have hps:=c1
   have c2:=c1
   have c3:=c1
   have l1:=c1
   have l2:=c1
   have hpt:=c1
   have hxm:=c1
   skip
   (refine B2.of_code (X:=cx) false [] (by simp) Tryz.func26 (by kernel_rfl) rfl (by simp only [List.length_cons,List.length_nil,Tryz.ntmps26];decide) (by simp) ?_;refine Ax hm _ _ _ ?_;simp only [Tryz.ntmps26,Tryz.results26,Cb,Ah,Bm,Br,Ab,Bd,A1,Bc,Bf,A0,Ch,Ca,E4,A9,Aj,B8,Ed,Cv,Dw,Cg,Bl,Bq,Au,Bt,Ar,G0,Ds,D4,Eo,Cj,Ei,C5,I6,Ag,Ae,A3,Cf,Bv,Bi,Bz,Bx,A4,B6,Bh,Az,A5,Cl,Ad,Ac,argW,List.map_cons,List.map_nil,List.length_cons,List.length_nil,List.append_nil,List.flatMap_cons,List.flatMap_nil,List.take_succ_cons,List.take_nil,List.getElem?_cons_zero,beq_iff_eq,Nat.reduceLT,Nat.reduceLeDiff,Nat.reduceEqDiff,Nat.reduceAdd,Int.reduceToNat,Int.reduceLE,true_and,Cc,Bw,↓reduceIte,reduceCtorEq,Nat.zero_add,Bool.true_and,Bool.or_true,Ir,J8,J0,Jm,hpl,hcl])
   (repeat' (first | (refine iteI (fun h=>?_) (fun h=>?_))|(refine B1 (by first | omega | (simp (disch:=omega) only [Aa,Ak,Ai] at *;omega)) ?_;intro b hb)|(refine And.intro (by first | omega | (simp (disch:=omega) only [Aa,Ak,Ai] at *;omega)) ?_)|((first | (refine Ba hm (by rfl) (by kernel_rfl) ?_)|(refine Det.use (hin) ?_)|(refine Det.useQ (hin) ?_)|(refine Er.use (hin) ?_)|(refine Dp.use (hin) ?_));simp only [Ah,Bm,Br,Cn,Ab,B3,Bd,A1,Bc,Ct,Bf,A0,Ca,E4,A9,Aj,B8,Ek,Bl,Bq,Au,Bt,Ar,Kx,G8,Eb,Ag,Ae,A3,Bp,Et,Bs,Cs,Cr,A6,A7,B9,Av,Ap,Al,B7,B5,Af,Am,Ao,Cy,Ay,A2,Ad,Ac,List.map_cons,List.map_nil,List.getElem?_cons_zero,List.getElem?_cons_succ,bne_iff_ne,ne_eq,not_false_eq_true,Nat.reduceLT,Nat.reduceEqDiff,and_true,Cc,↓reduceIte,Bool.and_true,Bool.or_true,c1])|(exact True.intro)|(exfalso;omega)))
   rw [setT,hi];rfl
  | ok w =>
   rw [hi] at hin
   unfold getR at hin
   have hle:=inT_le hi
   have hw:=way_of ht hi
   have ih:=d_Set p w u (by omega) (fun y hy=>hok y (List.mem_cons_of_mem _ hy)) (Jmj ht hw) hu (by omega)
   cases hz:setT p w u with
   | error e =>
    rw [hz] at ih
    unfold getR at ih
    have he:=Jrr hz
    have c1:((e:Int)=0)=False:=eq_false (by omega)
    have hps:=c1
    have c2:=c1
    have c3:=c1
    have l1:=c1
    have l2:=c1
    have hpt:=c1
    have hxm:=c1
    (refine B2.of_code (X:=cx) false [] (by simp) Tryz.func26 (by kernel_rfl) rfl (by simp only [List.length_cons,List.length_nil,Tryz.ntmps26];decide) (by simp) ?_;refine Ax hm _ _ _ ?_;simp only [Tryz.ntmps26,Tryz.results26,Cb,Ah,Bm,Br,Ab,Bd,A1,Bc,Bf,A0,Ch,Ca,E4,A9,Aj,B8,Ed,Cv,Dw,Cg,Bl,Bq,Au,Bt,Ar,G0,Ds,D4,Eo,Cj,Ei,C5,I6,Ag,Ae,A3,Cf,Bv,Bi,Bz,Bx,A4,B6,Bh,Az,A5,Cl,Ad,Ac,argW,List.map_cons,List.map_nil,List.length_cons,List.length_nil,List.append_nil,List.flatMap_cons,List.flatMap_nil,List.take_succ_cons,List.take_nil,List.getElem?_cons_zero,beq_iff_eq,Nat.reduceLT,Nat.reduceLeDiff,Nat.reduceEqDiff,Nat.reduceAdd,Int.reduceToNat,Int.reduceLE,true_and,Cc,Bw,↓reduceIte,reduceCtorEq,Nat.zero_add,Bool.true_and,Bool.or_true,Ir,J8,J0,Jm,hpl,hcl])
    (repeat' (first | (refine iteI (fun h=>?_) (fun h=>?_))|(refine B1 (by first | omega | (simp (disch:=omega) only [Aa,Ak,Ai] at *;omega)) ?_;intro b hb)|(refine And.intro (by first | omega | (simp (disch:=omega) only [Aa,Ak,Ai] at *;omega)) ?_)|((first | (refine Ba hm (by rfl) (by kernel_rfl) ?_)|(refine Det.use (hin) ?_)|(refine Det.useQ (hin) ?_)|(refine Er.use (hin) ?_)|(refine Dp.use (hin) ?_)|(refine Det.use (ih) ?_)|(refine Det.useQ (ih) ?_)|(refine Er.use (ih) ?_)|(refine Dp.use (ih) ?_));simp only [Cb,Ah,Bm,Br,Ab,Bd,A1,Bc,Ct,Bf,A0,Ch,Ca,A9,Aj,B8,E7,Ek,Cg,Bl,Bq,Au,Bt,Ar,Kx,G8,Ev,D5,E2,Jb7,Gf,Eb,Ag,Ae,A3,Cf,Bv,Bi,Bz,Bx,A4,Bp,B6,Et,Bh,Az,A5,Cl,Ad,Ac,List.map_cons,List.map_nil,List.length_cons,List.append_nil,List.flatMap_cons,List.flatMap_nil,List.drop_succ_cons,List.drop_zero,List.getElem?_cons_zero,List.getElem?_cons_succ,bne_iff_ne,ne_eq,not_true_eq_false,Nat.reduceLT,Nat.reduceEqDiff,Int.reduceToNat,Int.reduceLE,true_and,Cc,Bw,↓reduceIte,reduceCtorEq,Bool.true_and,Bool.or_true,Ir,Jm])|(exact True.intro)|(exfalso;omega)))
    refine ⟨by intro z hz';rcases List.mem_cons.1 hz' with rfl | hz';(· rfl);exact R6 _ z hz',by omega,?_⟩
    (repeat' (first | (refine iteI (fun h=>?_) (fun h=>?_))|(refine B1 (by first | omega | (simp (disch:=omega) only [Aa,Ak,Ai] at *;omega)) ?_;intro b hb)|(refine And.intro (by first | omega | (simp (disch:=omega) only [Aa,Ak,Ai] at *;omega)) ?_)|((first | (refine Ba hm (by rfl) (by kernel_rfl) ?_)|(refine Det.use (hin) ?_)|(refine Det.useQ (hin) ?_)|(refine Er.use (hin) ?_)|(refine Dp.use (hin) ?_)|(refine Det.use (ih) ?_)|(refine Det.useQ (ih) ?_)|(refine Er.use (ih) ?_)|(refine Dp.use (ih) ?_));simp only [Ah,Bm,Br,Cn,Ab,B3,Bd,A1,Bc,Ct,Bf,A0,Ca,E4,A9,Aj,B8,Ek,Bl,Bq,Au,Bt,Ar,Kx,G8,Eb,Ag,Ae,A3,Bp,Et,Bs,Cs,Cr,A6,A7,B9,Av,Ap,Al,B7,B5,Af,Am,Ao,Cy,Ay,A2,Ad,Ac,List.map_cons,List.map_nil,List.getElem?_cons_zero,List.getElem?_cons_succ,bne_iff_ne,ne_eq,not_false_eq_true,Nat.reduceLT,Nat.reduceEqDiff,and_true,Cc,↓reduceIte,Bool.and_true,Bool.or_true,c1])|(exact True.intro)|(exfalso;omega)))
    rw [setT,hi];simp only;rw [hz];rfl
   | ok y =>
    rw [hz] at ih
    unfold getR at ih
    have hyl:=(set_ok (Jmj ht hw) hu hz)
    obtain ⟨_,_,_,_,_,_,hyl⟩:=hyl
    have c1:=hpl
    have hres:setT (x :: p) t u=.ok (putT t x y):=by rw [setT,hi];simp only;rw [hz]
    rw [hres]
    cases t with
    | mk k s g e kids =>
    have hkv:kids.enc.length≤200000:=by rw [Gx] at hs;simp at hs;omega
    have hll:=Forest.len_le kids
    have hkl:=Forest.list_len kids
    cases hpt:x.part with
    | true =>
     obtain ⟨l,h5,_,hn,hg⟩ | ⟨_,_,h6,_,_⟩:=hw
     rotate_left
     ·rw [hpt] at h6;cases h6
     unfold nd at h5
     injection h5 with q1 q2 q3 q4 q5
     subst q1
     have hkk:kids.list=l:=by rw [q5,Rb]
     unfold Fw at hx
     rw [if_pos hpt] at hx
     obtain ⟨m,hxm⟩:∃ m:Nat,x.n=m:=⟨x.n.toNat,by omega⟩
     rw [putT_5 hpt,hxm]
     simp only [Int.toNat_natCast]
     have hml:m<kids.len:=by
      have:=(List.getElem?_eq_some_iff.1 hg).1
      rw [hxm] at this
      simp only [Int.toNat_natCast] at this
      rw [← hkl,hkk];exact this
     obtain ⟨q,hq⟩:∃ q,kids.list[m]? = some q:=⟨_,List.getElem?_eq_getElem (by omega)⟩
     have c2:=Jfv hq
     have c3:(E3 kids.list).length=kids.len:=by rw [Fo,hkl]
     have hps:=Jq7 kids.list m y
     have l1:(E3 (kids.list.set m ([],y))).take kids.len=E3 (kids.list.set m ([],y)):=List.take_of_length_le (by rw [Fo,List.length_set];omega)
     have l2:(kids.len≤(E3 (kids.list.set m ([],y))).length)=True:=eq_true (by rw [Fo,List.length_set];omega)
     have hus:=Jl2 (l:=kids.list) (i:=m) (y:=y)
     rw [Uh] at hus
     have hL:=d_List (kids.list.set m ([],y)) (by omega)
     have hP:=Jpg [] 5 s g e kids (by omega)
     rw [hpt,hxm] at hin
     (refine B2.of_code (X:=cx) false [] (by simp) Tryz.func26 (by kernel_rfl) rfl (by simp only [List.length_cons,List.length_nil,Tryz.ntmps26];decide) (by simp) ?_;refine Ax hm _ _ _ ?_;simp only [Tryz.ntmps26,Tryz.results26,Cb,Ah,Bm,Br,Ab,Bd,A1,Bc,Bf,A0,Ch,Ca,E4,A9,Aj,B8,Ed,Cv,Dw,Cg,Bl,Bq,Au,Bt,Ar,G0,Ds,D4,Eo,Cj,Ei,C5,I6,Ag,Ae,A3,Cf,Bv,Bi,Bz,Bx,A4,B6,Bh,Az,A5,Cl,Ad,Ac,argW,List.map_cons,List.map_nil,List.length_cons,List.length_nil,List.append_nil,List.flatMap_cons,List.flatMap_nil,List.take_succ_cons,List.take_nil,List.getElem?_cons_zero,beq_iff_eq,Nat.reduceLT,Nat.reduceLeDiff,Nat.reduceEqDiff,Nat.reduceAdd,Int.reduceToNat,Int.reduceLE,true_and,Cc,Bw,↓reduceIte,reduceCtorEq,Nat.zero_add,Bool.true_and,Bool.or_true,Ir,J8,J0,Jm,hpl,hcl,hpt,hxm])
     (repeat' (first | (refine iteI (fun h=>?_) (fun h=>?_))|(refine B1 (by first | omega | (simp (disch:=omega) only [Aa,Ak,Ai] at *;omega)) ?_;intro b hb)|(refine And.intro (by first | omega | (simp (disch:=omega) only [Aa,Ak,Ai] at *;omega)) ?_)|((first | (refine Ba hm (by rfl) (by kernel_rfl) ?_)|(refine Det.use (hin) ?_)|(refine Det.useQ (hin) ?_)|(refine Er.use (hin) ?_)|(refine Dp.use (hin) ?_)|(refine Det.use (ih) ?_)|(refine Det.useQ (ih) ?_)|(refine Er.use (ih) ?_)|(refine Dp.use (ih) ?_)|(refine Det.use (hP) ?_)|(refine Det.useQ (hP) ?_)|(refine Er.use (hP) ?_)|(refine Dp.use (hP) ?_)|(refine Det.use (hL) ?_)|(refine Det.useQ (hL) ?_)|(refine Er.use (hL) ?_)|(refine Dp.use (hL) ?_));simp only [Cb,Ah,Bm,Br,Ab,Bd,A1,Bc,Ct,Bf,A0,Ch,Ca,A9,Aj,B8,E7,Ek,Cg,Bl,Bq,Au,Bt,Ar,Kx,G8,Ev,D5,E2,Jb7,Gf,Eb,Ag,Ae,A3,Cf,Bv,Bi,Bz,Bx,A4,Bp,B6,Et,Bh,Az,A5,Cl,Ad,Ac,List.map_cons,List.map_nil,List.length_cons,List.append_nil,List.flatMap_cons,List.flatMap_nil,List.drop_succ_cons,List.drop_zero,List.getElem?_cons_zero,List.getElem?_cons_succ,bne_iff_ne,ne_eq,not_true_eq_false,Nat.reduceLT,Nat.reduceEqDiff,Int.reduceToNat,Int.reduceLE,true_and,Cc,Bw,↓reduceIte,reduceCtorEq,Bool.true_and,Bool.or_true,Ir,Jm])|(exact True.intro)|(exfalso;omega)))
     refine ⟨by intro z hz';rcases List.mem_cons.1 hz' with rfl | hz';(· rfl);exact R6 _ z hz',by omega,?_⟩
     (repeat' (first | (refine iteI (fun h=>?_) (fun h=>?_))|(refine B1 (by first | omega | (simp (disch:=omega) only [Aa,Ak,Ai] at *;omega)) ?_;intro b hb)|(refine And.intro (by first | omega | (simp (disch:=omega) only [Aa,Ak,Ai] at *;omega)) ?_)|((first | (refine Ba hm (by rfl) (by kernel_rfl) ?_)|(refine Det.use (hin) ?_)|(refine Det.useQ (hin) ?_)|(refine Er.use (hin) ?_)|(refine Dp.use (hin) ?_)|(refine Det.use (ih) ?_)|(refine Det.useQ (ih) ?_)|(refine Er.use (ih) ?_)|(refine Dp.use (ih) ?_)|(refine Det.use (hP) ?_)|(refine Det.useQ (hP) ?_)|(refine Er.use (hP) ?_)|(refine Dp.use (hP) ?_)|(refine Det.use (hL) ?_)|(refine Det.useQ (hL) ?_)|(refine Er.use (hL) ?_)|(refine Dp.use (hL) ?_));simp only [Cb,Ah,Bm,Br,Cn,Ab,Bd,A1,Bc,C1,Ct,Bf,A0,Ch,Ca,A9,Aj,B8,N7,Ed,Fk,C8,Cv,Ek,Cg,Bo,Bl,Bq,Au,Bt,Ar,Kx,J7,Eo,Cj,Ei,Lj,Lg,G8,C0,Gb,C5,Dd,Eb,Mj,Vs,Vw,Vr,Sf,Fj,Ii,Oy,Ag,Ae,A3,E6,Fu,En,F4,Cf,Bv,Bi,Bz,Bx,A4,Bp,Iw,Ik,D3,G2,Dz,Hk,H6,Lo,Fm,Hl,Jz,Bu,Hm,Di,B6,D2,Jl,Et,Ey,Bh,Az,A5,Bs,Cs,Cr,A6,A7,B9,Av,Ap,Al,B7,B5,Af,Am,Ao,Cy,Ay,Aw,Cp,Dx,Dk,I9,Jx,Pg,Kh,G9,Cl,C7,El,Cz,F1,A2,Ad,Ac,C6,Cq,Bg,Bb,List.map_cons,List.map_nil,List.length_cons,List.length_nil,List.nil_append,List.append_nil,List.flatMap_cons,List.flatMap_nil,List.take_zero,List.drop_succ_cons,List.drop_zero,List.drop_nil,List.getElem?_cons_zero,List.getElem?_cons_succ,bne_iff_ne,ne_eq,not_true_eq_false,not_false_eq_true,Nat.reduceLT,Nat.reduceLeDiff,Nat.reduceEqDiff,Nat.reduceAdd,Int.reduceToNat,Int.reduceLE,true_and,and_true,Cc,Bw,↓reduceIte,reduceCtorEq,Int.toNat_natCast,Int.natCast_nonneg,Nat.zero_add,Bool.not_true,Bool.false_eq_true,Bool.true_and,Bool.and_true,Bool.or_true,Ox,Mm,Pa,M1,J8,Ng,Lx,Jj,L6,c2,hps,l1,l2])|(exact True.intro)|(exfalso;omega)))
     all_goals rfl
    | false =>
     obtain ⟨_,_,h5,_,_⟩ | ⟨l,h6,_,hr,hg⟩:=hw
     ·rw [hpt] at h5;cases h5
     unfold nd at h6
     injection h6 with q1 q2 q3 q4 q5
     subst q1
     have hkk:kids.list=l:=by rw [q5,Rb]
     rw [putT_6 hpt]
     rw [hpt] at hin
     have hW:=d_With [] s g e kids x.name y (by omega) (by omega) (by rw [hkk];exact hr.kept _)
     have c2:=hpl
     have c3:=hpl
     have hps:=hpl
     have l1:=hpl
     have l2:=hpl
     have hxm:=hpl
     (refine B2.of_code (X:=cx) false [] (by simp) Tryz.func26 (by kernel_rfl) rfl (by simp only [List.length_cons,List.length_nil,Tryz.ntmps26];decide) (by simp) ?_;refine Ax hm _ _ _ ?_;simp only [Tryz.ntmps26,Tryz.results26,Cb,Ah,Bm,Br,Ab,Bd,A1,Bc,Bf,A0,Ch,Ca,E4,A9,Aj,B8,Ed,Cv,Dw,Cg,Bl,Bq,Au,Bt,Ar,G0,Ds,D4,Eo,Cj,Ei,C5,I6,Ag,Ae,A3,Cf,Bv,Bi,Bz,Bx,A4,B6,Bh,Az,A5,Cl,Ad,Ac,argW,List.map_cons,List.map_nil,List.length_cons,List.length_nil,List.append_nil,List.flatMap_cons,List.flatMap_nil,List.take_succ_cons,List.take_nil,List.getElem?_cons_zero,beq_iff_eq,Nat.reduceLT,Nat.reduceLeDiff,Nat.reduceEqDiff,Nat.reduceAdd,Int.reduceToNat,Int.reduceLE,true_and,Cc,Bw,↓reduceIte,reduceCtorEq,Nat.zero_add,Bool.true_and,Bool.or_true,Ir,J8,J0,Jm,hpl,hcl,hpt])
     (repeat' (first | (refine iteI (fun h=>?_) (fun h=>?_))|(refine B1 (by first | omega | (simp (disch:=omega) only [Aa,Ak,Ai] at *;omega)) ?_;intro b hb)|(refine And.intro (by first | omega | (simp (disch:=omega) only [Aa,Ak,Ai] at *;omega)) ?_)|((first | (refine Ba hm (by rfl) (by kernel_rfl) ?_)|(refine Det.use (hin) ?_)|(refine Det.useQ (hin) ?_)|(refine Er.use (hin) ?_)|(refine Dp.use (hin) ?_)|(refine Det.use (ih) ?_)|(refine Det.useQ (ih) ?_)|(refine Er.use (ih) ?_)|(refine Dp.use (ih) ?_)|(refine Det.use (hW) ?_)|(refine Det.useQ (hW) ?_)|(refine Er.use (hW) ?_)|(refine Dp.use (hW) ?_));simp only [Cb,Ah,Bm,Br,Ab,Bd,A1,Bc,Ct,Bf,A0,Ch,Ca,A9,Aj,B8,E7,Ek,Cg,Bl,Bq,Au,Bt,Ar,Kx,G8,Ev,D5,E2,Jb7,Gf,Eb,Ag,Ae,A3,Cf,Bv,Bi,Bz,Bx,A4,Bp,B6,Et,Bh,Az,A5,Cl,Ad,Ac,List.map_cons,List.map_nil,List.length_cons,List.append_nil,List.flatMap_cons,List.flatMap_nil,List.drop_succ_cons,List.drop_zero,List.getElem?_cons_zero,List.getElem?_cons_succ,bne_iff_ne,ne_eq,not_true_eq_false,Nat.reduceLT,Nat.reduceEqDiff,Int.reduceToNat,Int.reduceLE,true_and,Cc,Bw,↓reduceIte,reduceCtorEq,Bool.true_and,Bool.or_true,Ir,Jm])|(exact True.intro)|(exfalso;omega)))
     refine ⟨by intro z hz';rcases List.mem_cons.1 hz' with rfl | hz';(· rfl);exact R6 _ z hz',by omega,?_⟩
     (repeat' (first | (refine iteI (fun h=>?_) (fun h=>?_))|(refine B1 (by first | omega | (simp (disch:=omega) only [Aa,Ak,Ai] at *;omega)) ?_;intro b hb)|(refine And.intro (by first | omega | (simp (disch:=omega) only [Aa,Ak,Ai] at *;omega)) ?_)|((first | (refine Ba hm (by rfl) (by kernel_rfl) ?_)|(refine Det.use (hin) ?_)|(refine Det.useQ (hin) ?_)|(refine Er.use (hin) ?_)|(refine Dp.use (hin) ?_)|(refine Det.use (ih) ?_)|(refine Det.useQ (ih) ?_)|(refine Er.use (ih) ?_)|(refine Dp.use (ih) ?_)|(refine Det.use (hW) ?_)|(refine Det.useQ (hW) ?_)|(refine Er.use (hW) ?_)|(refine Dp.use (hW) ?_));simp only [Cb,Ah,Bm,Br,Cn,Ab,B3,Bd,A1,Bc,Ct,Bf,A0,Ch,Ca,A9,Aj,B8,N7,Ed,C8,Cv,Ek,Cg,Bl,Bq,Au,Bt,Ar,Kx,J7,Eo,Cj,Ei,G8,C0,Gb,C5,Dd,Eb,Ag,Ae,A3,Cf,Bv,Bi,Bz,Bx,A4,Bp,B6,Et,Bh,Az,A5,Bs,Cs,Cr,A6,A7,B9,Av,Ap,Al,B7,B5,Af,Am,Ao,Cy,Ay,Cl,A2,Ad,Ac,List.map_cons,List.map_nil,List.length_cons,List.length_nil,List.append_nil,List.flatMap_cons,List.flatMap_nil,List.drop_succ_cons,List.drop_zero,List.getElem?_cons_zero,List.getElem?_cons_succ,bne_iff_ne,ne_eq,not_true_eq_false,Nat.reduceLT,Nat.reduceLeDiff,Nat.reduceEqDiff,Nat.reduceAdd,Int.reduceToNat,Int.reduceLE,true_and,and_true,Cc,Bw,↓reduceIte,reduceCtorEq,Nat.zero_add,Bool.not_false,Bool.true_and,Bool.and_true,Bool.or_true,Pa,M1,L5,Kg,J8,Jj,Iq])|(exact True.intro)|(exfalso;omega)))
     all_goals rfl
end Go.LX
