/- Paths: something else set. -/
import Derived.Test.YtmejkfclabmijaaGreatDoorPathBackLxZB
import Derived.Test.YtmejkfclabmijaaGreatDoorPathBackLxZC
set_option linter.unusedSimpArgs false
set_option linter.unusedVariables false
set_option linter.unusedSectionVars false
set_option linter.unnecessarySimpa false
set_option maxRecDepth 100000
set_option maxHeartbeats 2000000
namespace Go.LX
open Go Go.RowKit Go.Proofs
attribute [local irreducible] Bz SWP Gm
theorem d_List (l:List (List UInt8×Tree)) (hv:(Dz (unn l)).enc.length≤900000):Det cx 63 [.p (.sl (El l))] [] (.p (.sl (valL ((Tree.mk 5 [] false 0 (Dz (unn l))).enc [])))) []:=by
 have hll:=Forest.len_le (Dz (unn l))
 rw [Jv,Vs] at hll
 have c1:(1+(Dz (unn l)).enc.length≤(Dz (unn l)).enc.length+1)=True:=eq_true (by omega)
 have t1:∀ h:List PV,(h :: valL (Dz (unn l)).enc).take (1+(Dz (unn l)).enc.length)=h :: valL (Dz (unn l)).enc:=fun h=>List.take_of_length_le (by simp;omega)
 skip
 (refine Bz.of_code (X:=cx) false [] (by simp) Tryz.func63 (by kernel_rfl) rfl (by simp only [List.length_cons,List.length_nil,Tryz.ntmps63];decide) (by simp) ?_;refine Ax hm _ _ _ ?_;simp only [Tryz.ntmps63,Tryz.results63,Ah,Bn,Ab,Bd,A0,Bb,Cs,Be,Az,Ce,Cb,E1,Ba,Ai,N0,Eg,Di,Cc,Bp,D9,D0,K7,L6,N1,Kd,Lh,N7,Cr,Gj,Ag,Ae,A3,Cd,Bv,Bm,Bx,Bw,A5,B3,Bi,Ay,A4,Ib,Jm,Ii,Dh,Jl,Gz,G8,Ha,G6,H7,H1,B1,E6,Cj,Ds,Fl,Db,Hf,Ad,Ac,Bl,Bf,A6,argW,List.map_cons,List.map_nil,List.length_cons,List.length_nil,List.append_nil,List.flatMap_cons,List.flatMap_nil,List.set_cons_zero,List.set_cons_succ,Nat.reduceLT,Nat.reduceLeDiff,Nat.reduceEqDiff,Nat.reduceAdd,Nat.reduceMul,true_and,Ca,Bu,↓reduceIte,reduceCtorEq,Nat.zero_add,Bool.true_and,Bool.and_true,beq_self_eq_true,and_self,Mj,Jk,O4,K1,Kj,Yj,Rr,E5])
 (repeat' (first | (refine iteI (fun h=>?_) (fun h=>?_))|(refine B2 (by first | omega | (simp (disch:=omega) only [Aa,Ak,Aj] at *;omega)) ?_;intro b hb)|(refine And.intro (by first | omega | (simp (disch:=omega) only [Aa,Ak,Aj] at *;omega)) ?_)|((first | (refine A9 hm (by rfl) (by kernel_rfl) ?_)|(refine Det.use (Jkg l hv) ?_)|(refine Det.useQ (Jkg l hv) ?_));simp only [Cn,Ab,Bd,A0,Bb,Cs,Be,Ai,Fy,Bp,Cr,G1,Ag,Ae,F8,Gq,Fk,Gs,Bq,B3,Ii,G0,F1,Pr,Lu,Gb,Km,Bt,Cy,Cz,A7,A8,B9,Aw,Ao,Al,B5,B6,Af,Am,Ap,Cl,A1,Ar,B1,Cw,D8,Dv,E6,G2,F5,Jg,S0,Hy,A2,Ad,Ac,Bl,Dc,Bf,A6,List.length_cons,List.length_nil,List.cons_append,List.nil_append,List.drop_zero,Nat.reduceLT,Nat.reduceEqDiff,Nat.reduceAdd,true_and,and_true,Ca,↓reduceIte,Nat.zero_add,L.p.injEq,Bool.true_and,Bool.and_true,Jk,Rr,Xa,Iz,c1,t1])|(exact True.intro)|(exfalso;omega)))
 (repeat' (first | (refine And.intro (by first | omega | (simp;done)|(simp;omega) | exact Ou _) ?_)))
 rw [Ga,Jv,Vs]
 rfl
theorem Jpi (l:List (List UInt8×Tree)) (n:Nat) (y:Tree):(El l).set n [.sl (valL (y.enc []))]=El (l.set n ([],y)):=by simp [El,List.map_set]
theorem Jkj {l:List KT} {i:Nat} {y:Tree}:(Dz (unn (l.set i ([],y)))).enc.length≤(Dz l).enc.length+(y.enc []).length:=by
 induction l generalizing i with
 | nil=>simp [unn,Dz,Jf]
 | cons p l ih =>
  have hl:∀ l:List KT,(Dz (unn l)).enc.length=(Dz l).enc.length:=by
   intro l
   induction l with
   | nil=>rfl
   | cons q l ih =>
    unfold unn at ih ⊢
    simp only [List.map_cons,Dz,Er,List.length_append,ih,Rp _ q.1]
  cases i with
  | zero =>
   rw [hl]
   simp only [List.set_cons_zero,Dz,Er,List.length_append];omega
  | succ i =>
   have:=ih (i:=i)
   rw [hl] at this ⊢
   simp only [List.set_cons_succ,Dz,Er,List.length_append];omega
theorem putT_5 {s:List UInt8} {g:Bool} {e:Int} {kids:Forest} {x:Step} {y:Tree} (hp:x.part=true):putT (.mk 5 s g e kids) x y=.mk 5 [] false 0 (Dz (unn (kids.list.set x.n.toNat ([],y)))):=by
 show (if x.part=true then nd 5 _ else _)=_
 rw [if_pos hp];rfl
theorem putT_6 {s:List UInt8} {g:Bool} {e:Int} {kids:Forest} {x:Step} {y:Tree} (hp:x.part=false):putT (.mk 6 s g e kids) x y=.mk 6 [] false 0 (Dz (putL x.name y (E0 x.name kids.list))):=by
 show (if x.part=true then _ else nd 6 _)=_
 rw [if_neg (by simp [hp])];rfl
theorem Jpq (t u:Tree):Det cx 26 [.p (.sl (Gp [])),.p (.sl (valL (t.enc []))),.p (.sl (valL (u.enc [])))] [] (getR (setT [] t u)) []:=by
 have hpe:Gp []=[]:=rfl
 skip
 (refine Bz.of_code (X:=cx) false [] (by simp) Tryz.func26 (by kernel_rfl) rfl (by simp only [List.length_cons,List.length_nil,Tryz.ntmps26];decide) (by simp) ?_;refine Ax hm _ _ _ ?_;simp only [Tryz.ntmps26,Tryz.results26,Ch,Ah,Bn,Bs,Cn,Ab,Cf,Bd,A0,Bb,Be,Az,Cb,E1,Ba,Ai,B8,Cp,Eg,Br,Av,B0,Aq,H0,D9,D0,B7,D7,Ag,Ae,A3,Bt,Cy,Cz,A7,A8,B9,Aw,Ao,Al,B5,B6,Af,Am,Ap,De,A1,A2,Ad,Ac,argW,List.map_cons,List.map_nil,List.length_nil,List.getElem?_nil,beq_iff_eq,Nat.reduceLT,Nat.reduceEqDiff,Nat.reduceAdd,Int.reduceToNat,Int.reduceLE,true_and,and_true,Ca,↓reduceIte,reduceCtorEq,Nat.zero_add,Bool.true_and,Bool.and_true,Bool.or_true,I9,Kl,hpe])
 (repeat' (first | (refine iteI (fun h=>?_) (fun h=>?_))|(refine B2 (by first | omega | (simp (disch:=omega) only [Aa,Ak,Aj] at *;omega)) ?_;intro b hb)|(refine And.intro (by first | omega | (simp (disch:=omega) only [Aa,Ak,Aj] at *;omega)) ?_)|((first | (refine A9 hm (by rfl) (by kernel_rfl) ?_));simp only [Dm])|(exact True.intro)|(exfalso;omega)))
 rfl
theorem Jp7 {p:List Step} {t u:Tree} {e:Nat} (h:setT p t u=.error e):e=5∨e=6:=by
 rw [Joe] at h
 induction p generalizing t with
 | nil=>cases h
 | cons x p ih =>
  rw [getT] at h
  cases hi:inT t x with
  | error e'=>rw [hi] at h;cases h;exact Jgo hi
  | ok w=>rw [hi] at h;exact ih h
theorem d_Set:∀ (p:List Step) (t u:Tree),p.length≤1000→(∀ x∈p,Fs x)→okT t→okT u→(t.enc []).length+(u.enc []).length≤200000→Det cx 26 [.p (.sl (Gp p)),.p (.sl (valL (t.enc []))),.p (.sl (valL (u.enc [])))] [] (getR (setT p t u)) []
 | [],t,u,hp,hok,ht,hu,hs=>Jpq t u
 | x :: p,t,u,hp,hok,ht,hu,hs=>by
  have hx:=hok x List.mem_cons_self
  have hpl:Gp (x :: p)=[.bool x.part,.str x.name,.int .i64 x.n] :: Gp p:=rfl
  have hcl:((((Gp p).length+1:Nat):Int)=0)=False:=eq_false (by omega)
  have hin:=d_in t x (by omega) hx
  simp only [List.length_cons] at hp
  cases hi:inT t x with
  | error e =>
   rw [hi] at hin
   unfold getR at hin
   have he:=Jgo hi
   have c1:((e:Int)=0)=False:=eq_false (by omega)
   have hps:=c1
   have c2:=c1
   have c3:=c1
   have l1:=c1
   have l2:=c1
   have hpt:=c1
   have hxm:=c1
   skip
   (refine Bz.of_code (X:=cx) false [] (by simp) Tryz.func26 (by kernel_rfl) rfl (by simp only [List.length_cons,List.length_nil,Tryz.ntmps26];decide) (by simp) ?_;refine Ax hm _ _ _ ?_;simp only [Tryz.ntmps26,Tryz.results26,Ch,Ah,Bn,Bs,Ab,Bd,A0,Bb,Be,Az,Ce,Cb,E1,Ba,Ai,B8,D5,Cp,Eg,Cc,Bg,Br,Av,B0,Aq,H0,D9,D0,Eh,B7,D7,C5,Ic,Ag,Ae,A3,Cd,Bv,Bm,Bx,Bw,A5,B3,Bi,Ay,A4,Cj,Ad,Ac,argW,List.map_cons,List.map_nil,List.length_cons,List.length_nil,List.append_nil,List.flatMap_cons,List.flatMap_nil,List.take_succ_cons,List.take_nil,List.getElem?_cons_zero,beq_iff_eq,Nat.reduceLT,Nat.reduceLeDiff,Nat.reduceEqDiff,Nat.reduceAdd,Int.reduceToNat,Int.reduceLE,true_and,Ca,Bu,↓reduceIte,reduceCtorEq,Nat.zero_add,Bool.true_and,Bool.or_true,I9,Kl,Lm,Kk,hpl,hcl])
   (repeat' (first | (refine iteI (fun h=>?_) (fun h=>?_))|(refine B2 (by first | omega | (simp (disch:=omega) only [Aa,Ak,Aj] at *;omega)) ?_;intro b hb)|(refine And.intro (by first | omega | (simp (disch:=omega) only [Aa,Ak,Aj] at *;omega)) ?_)|((first | (refine A9 hm (by rfl) (by kernel_rfl) ?_)|(refine Det.use (hin) ?_)|(refine Det.useQ (hin) ?_)|(refine Ec.use (hin) ?_)|(refine C7.use (hin) ?_));simp only [Ah,Bn,Bs,Cn,Ab,Cf,Bd,A0,Bb,Cs,Be,Az,Cb,E1,Ba,Ai,B8,Es,Bg,Br,Av,B0,Aq,Ll,He,En,Ag,Ae,A3,Bq,Fc,Bt,Cy,Cz,A7,A8,B9,Aw,Ao,Al,B5,B6,Af,Am,Ap,De,A1,A2,Ad,Ac,List.map_cons,List.map_nil,List.getElem?_cons_zero,List.getElem?_cons_succ,bne_iff_ne,ne_eq,not_false_eq_true,Nat.reduceLT,Nat.reduceEqDiff,and_true,Ca,↓reduceIte,Bool.and_true,Bool.or_true,c1])|(exact True.intro)|(exfalso;omega)))
   rw [setT,hi];rfl
  | ok w =>
   rw [hi] at hin
   unfold getR at hin
   have hle:=inT_le hi
   have hw:=way_of ht hi
   have ih:=d_Set p w u (by omega) (fun y hy=>hok y (List.mem_cons_of_mem _ hy)) (Jl1 ht hw) hu (by omega)
   cases hz:setT p w u with
   | error e =>
    rw [hz] at ih
    unfold getR at ih
    have he:=Jp7 hz
    have c1:((e:Int)=0)=False:=eq_false (by omega)
    have hps:=c1
    have c2:=c1
    have c3:=c1
    have l1:=c1
    have l2:=c1
    have hpt:=c1
    have hxm:=c1
    (refine Bz.of_code (X:=cx) false [] (by simp) Tryz.func26 (by kernel_rfl) rfl (by simp only [List.length_cons,List.length_nil,Tryz.ntmps26];decide) (by simp) ?_;refine Ax hm _ _ _ ?_;simp only [Tryz.ntmps26,Tryz.results26,Ch,Ah,Bn,Bs,Ab,Bd,A0,Bb,Be,Az,Ce,Cb,E1,Ba,Ai,B8,D5,Cp,Eg,Cc,Bg,Br,Av,B0,Aq,H0,D9,D0,Eh,B7,D7,C5,Ic,Ag,Ae,A3,Cd,Bv,Bm,Bx,Bw,A5,B3,Bi,Ay,A4,Cj,Ad,Ac,argW,List.map_cons,List.map_nil,List.length_cons,List.length_nil,List.append_nil,List.flatMap_cons,List.flatMap_nil,List.take_succ_cons,List.take_nil,List.getElem?_cons_zero,beq_iff_eq,Nat.reduceLT,Nat.reduceLeDiff,Nat.reduceEqDiff,Nat.reduceAdd,Int.reduceToNat,Int.reduceLE,true_and,Ca,Bu,↓reduceIte,reduceCtorEq,Nat.zero_add,Bool.true_and,Bool.or_true,I9,Kl,Lm,Kk,hpl,hcl])
    (repeat' (first | (refine iteI (fun h=>?_) (fun h=>?_))|(refine B2 (by first | omega | (simp (disch:=omega) only [Aa,Ak,Aj] at *;omega)) ?_;intro b hb)|(refine And.intro (by first | omega | (simp (disch:=omega) only [Aa,Ak,Aj] at *;omega)) ?_)|((first | (refine A9 hm (by rfl) (by kernel_rfl) ?_)|(refine Det.use (hin) ?_)|(refine Det.useQ (hin) ?_)|(refine Ec.use (hin) ?_)|(refine C7.use (hin) ?_)|(refine Det.use (ih) ?_)|(refine Det.useQ (ih) ?_)|(refine Ec.use (ih) ?_)|(refine C7.use (ih) ?_));simp only [Ch,Ah,Bn,Bs,Ab,Bd,A0,Bb,Cs,Be,Az,Ce,Cb,Ba,Ai,B8,Ft,Es,Cc,Bg,Br,Av,B0,Aq,Ll,He,E9,Ef,Fn,Jbd,Gy,En,Ag,Ae,A3,Cd,Bv,Bm,Bx,Bw,A5,Bq,B3,Fc,Bi,Ay,A4,Cj,Ad,Ac,List.map_cons,List.map_nil,List.length_cons,List.append_nil,List.flatMap_cons,List.flatMap_nil,List.drop_succ_cons,List.drop_zero,List.getElem?_cons_zero,List.getElem?_cons_succ,bne_iff_ne,ne_eq,not_true_eq_false,Nat.reduceLT,Nat.reduceEqDiff,Int.reduceToNat,Int.reduceLE,true_and,Ca,Bu,↓reduceIte,reduceCtorEq,Bool.true_and,Bool.or_true,I9,Kk])|(exact True.intro)|(exfalso;omega)))
    refine ⟨by intro z hz';rcases List.mem_cons.1 hz' with rfl | hz';(· rfl);exact Ru _ z hz',by omega,?_⟩
    (repeat' (first | (refine iteI (fun h=>?_) (fun h=>?_))|(refine B2 (by first | omega | (simp (disch:=omega) only [Aa,Ak,Aj] at *;omega)) ?_;intro b hb)|(refine And.intro (by first | omega | (simp (disch:=omega) only [Aa,Ak,Aj] at *;omega)) ?_)|((first | (refine A9 hm (by rfl) (by kernel_rfl) ?_)|(refine Det.use (hin) ?_)|(refine Det.useQ (hin) ?_)|(refine Ec.use (hin) ?_)|(refine C7.use (hin) ?_)|(refine Det.use (ih) ?_)|(refine Det.useQ (ih) ?_)|(refine Ec.use (ih) ?_)|(refine C7.use (ih) ?_));simp only [Ah,Bn,Bs,Cn,Ab,Cf,Bd,A0,Bb,Cs,Be,Az,Cb,E1,Ba,Ai,B8,Es,Bg,Br,Av,B0,Aq,Ll,He,En,Ag,Ae,A3,Bq,Fc,Bt,Cy,Cz,A7,A8,B9,Aw,Ao,Al,B5,B6,Af,Am,Ap,De,A1,A2,Ad,Ac,List.map_cons,List.map_nil,List.getElem?_cons_zero,List.getElem?_cons_succ,bne_iff_ne,ne_eq,not_false_eq_true,Nat.reduceLT,Nat.reduceEqDiff,and_true,Ca,↓reduceIte,Bool.and_true,Bool.or_true,c1])|(exact True.intro)|(exfalso;omega)))
    rw [setT,hi];simp only;rw [hz];rfl
   | ok y =>
    rw [hz] at ih
    unfold getR at ih
    have hyl:=(set_ok (Jl1 ht hw) hu hz)
    obtain ⟨_,_,_,_,_,_,hyl⟩:=hyl
    have c1:=hpl
    have hres:setT (x :: p) t u=.ok (putT t x y):=by rw [setT,hi];simp only;rw [hz]
    rw [hres]
    cases t with
    | mk k s g e kids =>
    have hkv:kids.enc.length≤200000:=by rw [Ga] at hs;simp at hs;omega
    have hll:=Forest.len_le kids
    have hkl:=Forest.list_len kids
    cases hpt:x.part with
    | true =>
     obtain ⟨l,h5,_,hn,hg⟩ | ⟨_,_,h6,_,_⟩:=hw
     rotate_left
     ·rw [hpt] at h6;cases h6
     unfold nd at h5
     injection h5 with q1 q2 q3 q4 q5
     subst q1
     have hkk:kids.list=l:=by rw [q5,Qj]
     unfold Fs at hx
     rw [if_pos hpt] at hx
     obtain ⟨m,hxm⟩:∃ m:Nat,x.n=m:=⟨x.n.toNat,by omega⟩
     rw [putT_5 hpt,hxm]
     simp only [Int.toNat_natCast]
     have hml:m<kids.len:=by
      have:=(List.getElem?_eq_some_iff.1 hg).1
      rw [hxm] at this
      simp only [Int.toNat_natCast] at this
      rw [← hkl,hkk];exact this
     obtain ⟨q,hq⟩:∃ q,kids.list[m]? = some q:=⟨_,List.getElem?_eq_getElem (by omega)⟩
     have c2:=Jgh hq
     have c3:(El kids.list).length=kids.len:=by rw [E5,hkl]
     have hps:=Jpi kids.list m y
     have l1:(El (kids.list.set m ([],y))).take kids.len=El (kids.list.set m ([],y)):=List.take_of_length_le (by rw [E5,List.length_set];omega)
     have l2:(kids.len≤(El (kids.list.set m ([],y))).length)=True:=eq_true (by rw [E5,List.length_set];omega)
     have hus:=Jkj (l:=kids.list) (i:=m) (y:=y)
     rw [Tl] at hus
     have hL:=d_List (kids.list.set m ([],y)) (by omega)
     have hP:=Jnp [] 5 s g e kids (by omega)
     rw [hpt,hxm] at hin
     (refine Bz.of_code (X:=cx) false [] (by simp) Tryz.func26 (by kernel_rfl) rfl (by simp only [List.length_cons,List.length_nil,Tryz.ntmps26];decide) (by simp) ?_;refine Ax hm _ _ _ ?_;simp only [Tryz.ntmps26,Tryz.results26,Ch,Ah,Bn,Bs,Ab,Bd,A0,Bb,Be,Az,Ce,Cb,E1,Ba,Ai,B8,D5,Cp,Eg,Cc,Bg,Br,Av,B0,Aq,H0,D9,D0,Eh,B7,D7,C5,Ic,Ag,Ae,A3,Cd,Bv,Bm,Bx,Bw,A5,B3,Bi,Ay,A4,Cj,Ad,Ac,argW,List.map_cons,List.map_nil,List.length_cons,List.length_nil,List.append_nil,List.flatMap_cons,List.flatMap_nil,List.take_succ_cons,List.take_nil,List.getElem?_cons_zero,beq_iff_eq,Nat.reduceLT,Nat.reduceLeDiff,Nat.reduceEqDiff,Nat.reduceAdd,Int.reduceToNat,Int.reduceLE,true_and,Ca,Bu,↓reduceIte,reduceCtorEq,Nat.zero_add,Bool.true_and,Bool.or_true,I9,Kl,Lm,Kk,hpl,hcl,hpt,hxm])
     (repeat' (first | (refine iteI (fun h=>?_) (fun h=>?_))|(refine B2 (by first | omega | (simp (disch:=omega) only [Aa,Ak,Aj] at *;omega)) ?_;intro b hb)|(refine And.intro (by first | omega | (simp (disch:=omega) only [Aa,Ak,Aj] at *;omega)) ?_)|((first | (refine A9 hm (by rfl) (by kernel_rfl) ?_)|(refine Det.use (hin) ?_)|(refine Det.useQ (hin) ?_)|(refine Ec.use (hin) ?_)|(refine C7.use (hin) ?_)|(refine Det.use (ih) ?_)|(refine Det.useQ (ih) ?_)|(refine Ec.use (ih) ?_)|(refine C7.use (ih) ?_)|(refine Det.use (hP) ?_)|(refine Det.useQ (hP) ?_)|(refine Ec.use (hP) ?_)|(refine C7.use (hP) ?_)|(refine Det.use (hL) ?_)|(refine Det.useQ (hL) ?_)|(refine Ec.use (hL) ?_)|(refine C7.use (hL) ?_));simp only [Ch,Ah,Bn,Bs,Ab,Bd,A0,Bb,Cs,Be,Az,Ce,Cb,Ba,Ai,B8,Ft,Es,Cc,Bg,Br,Av,B0,Aq,Ll,He,E9,Ef,Fn,Jbd,Gy,En,Ag,Ae,A3,Cd,Bv,Bm,Bx,Bw,A5,Bq,B3,Fc,Bi,Ay,A4,Cj,Ad,Ac,List.map_cons,List.map_nil,List.length_cons,List.append_nil,List.flatMap_cons,List.flatMap_nil,List.drop_succ_cons,List.drop_zero,List.getElem?_cons_zero,List.getElem?_cons_succ,bne_iff_ne,ne_eq,not_true_eq_false,Nat.reduceLT,Nat.reduceEqDiff,Int.reduceToNat,Int.reduceLE,true_and,Ca,Bu,↓reduceIte,reduceCtorEq,Bool.true_and,Bool.or_true,I9,Kk])|(exact True.intro)|(exfalso;omega)))
     refine ⟨by intro z hz';rcases List.mem_cons.1 hz' with rfl | hz';(· rfl);exact Ru _ z hz',by omega,?_⟩
     (repeat' (first | (refine iteI (fun h=>?_) (fun h=>?_))|(refine B2 (by first | omega | (simp (disch:=omega) only [Aa,Ak,Aj] at *;omega)) ?_;intro b hb)|(refine And.intro (by first | omega | (simp (disch:=omega) only [Aa,Ak,Aj] at *;omega)) ?_)|((first | (refine A9 hm (by rfl) (by kernel_rfl) ?_)|(refine Det.use (hin) ?_)|(refine Det.useQ (hin) ?_)|(refine Ec.use (hin) ?_)|(refine C7.use (hin) ?_)|(refine Det.use (ih) ?_)|(refine Det.useQ (ih) ?_)|(refine Ec.use (ih) ?_)|(refine C7.use (ih) ?_)|(refine Det.use (hP) ?_)|(refine Det.useQ (hP) ?_)|(refine Ec.use (hP) ?_)|(refine C7.use (hP) ?_)|(refine Det.use (hL) ?_)|(refine Det.useQ (hL) ?_)|(refine Ec.use (hL) ?_)|(refine C7.use (hL) ?_));simp only [Ch,Ah,Bn,Bs,Cn,Ab,Bd,A0,Bb,Dd,Cs,Be,Az,Ce,Cb,Ba,Ai,B8,Oo,D5,Gn,C2,Cp,Es,Cc,Bp,Bg,Br,Av,B0,Aq,Ll,Jp,Eh,B7,D7,Kr,Ku,He,Cv,Gi,C5,C4,En,Lz,Vb,T9,U4,Rs,Gl,Jc,Ob,Ag,Ae,A3,F8,Gq,Fk,Gs,Cd,Bv,Bm,Bx,Bw,A5,Bq,H4,Hv,Dn,Gc,Df,Gu,Hm,K8,E4,Gv,Jd,Bk,Gx,C1,B3,Dl,Il,Fc,Ek,Bi,Ay,A4,Bt,Cy,Cz,A7,A8,B9,Aw,Ao,Al,B5,B6,Af,Am,Ap,De,A1,Ar,Cu,D8,Dv,Jg,J8,Oy,Kb,Hy,Cj,Ds,Fl,Db,Hf,A2,Ad,Ac,Dc,Cg,Bf,A6,List.map_cons,List.map_nil,List.length_cons,List.length_nil,List.nil_append,List.append_nil,List.flatMap_cons,List.flatMap_nil,List.take_zero,List.drop_succ_cons,List.drop_zero,List.drop_nil,List.getElem?_cons_zero,List.getElem?_cons_succ,bne_iff_ne,ne_eq,not_true_eq_false,not_false_eq_true,Nat.reduceLT,Nat.reduceLeDiff,Nat.reduceEqDiff,Nat.reduceAdd,Int.reduceToNat,Int.reduceLE,true_and,and_true,Ca,Bu,↓reduceIte,reduceCtorEq,Int.toNat_natCast,Int.natCast_nonneg,Nat.zero_add,Bool.not_true,Bool.false_eq_true,Bool.true_and,Bool.and_true,Bool.or_true,Om,Mj,O9,Nr,Kl,Mx,Ld,Jq,Na,c2,hps,l1,l2])|(exact True.intro)|(exfalso;omega)))
     all_goals rfl
    | false =>
     obtain ⟨_,_,h5,_,_⟩ | ⟨l,h6,_,hr,hg⟩:=hw
     ·rw [hpt] at h5;cases h5
     unfold nd at h6
     injection h6 with q1 q2 q3 q4 q5
     subst q1
     have hkk:kids.list=l:=by rw [q5,Qj]
     rw [putT_6 hpt]
     rw [hpt] at hin
     have hW:=d_With [] s g e kids x.name y (by omega) (by omega) (by rw [hkk];exact hr.kept _)
     have c2:=hpl
     have c3:=hpl
     have hps:=hpl
     have l1:=hpl
     have l2:=hpl
     have hxm:=hpl
     (refine Bz.of_code (X:=cx) false [] (by simp) Tryz.func26 (by kernel_rfl) rfl (by simp only [List.length_cons,List.length_nil,Tryz.ntmps26];decide) (by simp) ?_;refine Ax hm _ _ _ ?_;simp only [Tryz.ntmps26,Tryz.results26,Ch,Ah,Bn,Bs,Ab,Bd,A0,Bb,Be,Az,Ce,Cb,E1,Ba,Ai,B8,D5,Cp,Eg,Cc,Bg,Br,Av,B0,Aq,H0,D9,D0,Eh,B7,D7,C5,Ic,Ag,Ae,A3,Cd,Bv,Bm,Bx,Bw,A5,B3,Bi,Ay,A4,Cj,Ad,Ac,argW,List.map_cons,List.map_nil,List.length_cons,List.length_nil,List.append_nil,List.flatMap_cons,List.flatMap_nil,List.take_succ_cons,List.take_nil,List.getElem?_cons_zero,beq_iff_eq,Nat.reduceLT,Nat.reduceLeDiff,Nat.reduceEqDiff,Nat.reduceAdd,Int.reduceToNat,Int.reduceLE,true_and,Ca,Bu,↓reduceIte,reduceCtorEq,Nat.zero_add,Bool.true_and,Bool.or_true,I9,Kl,Lm,Kk,hpl,hcl,hpt])
     (repeat' (first | (refine iteI (fun h=>?_) (fun h=>?_))|(refine B2 (by first | omega | (simp (disch:=omega) only [Aa,Ak,Aj] at *;omega)) ?_;intro b hb)|(refine And.intro (by first | omega | (simp (disch:=omega) only [Aa,Ak,Aj] at *;omega)) ?_)|((first | (refine A9 hm (by rfl) (by kernel_rfl) ?_)|(refine Det.use (hin) ?_)|(refine Det.useQ (hin) ?_)|(refine Ec.use (hin) ?_)|(refine C7.use (hin) ?_)|(refine Det.use (ih) ?_)|(refine Det.useQ (ih) ?_)|(refine Ec.use (ih) ?_)|(refine C7.use (ih) ?_)|(refine Det.use (hW) ?_)|(refine Det.useQ (hW) ?_)|(refine Ec.use (hW) ?_)|(refine C7.use (hW) ?_));simp only [Ch,Ah,Bn,Bs,Ab,Bd,A0,Bb,Cs,Be,Az,Ce,Cb,Ba,Ai,B8,Ft,Es,Cc,Bg,Br,Av,B0,Aq,Ll,He,E9,Ef,Fn,Jbd,Gy,En,Ag,Ae,A3,Cd,Bv,Bm,Bx,Bw,A5,Bq,B3,Fc,Bi,Ay,A4,Cj,Ad,Ac,List.map_cons,List.map_nil,List.length_cons,List.append_nil,List.flatMap_cons,List.flatMap_nil,List.drop_succ_cons,List.drop_zero,List.getElem?_cons_zero,List.getElem?_cons_succ,bne_iff_ne,ne_eq,not_true_eq_false,Nat.reduceLT,Nat.reduceEqDiff,Int.reduceToNat,Int.reduceLE,true_and,Ca,Bu,↓reduceIte,reduceCtorEq,Bool.true_and,Bool.or_true,I9,Kk])|(exact True.intro)|(exfalso;omega)))
     refine ⟨by intro z hz';rcases List.mem_cons.1 hz' with rfl | hz';(· rfl);exact Ru _ z hz',by omega,?_⟩
     (repeat' (first | (refine iteI (fun h=>?_) (fun h=>?_))|(refine B2 (by first | omega | (simp (disch:=omega) only [Aa,Ak,Aj] at *;omega)) ?_;intro b hb)|(refine And.intro (by first | omega | (simp (disch:=omega) only [Aa,Ak,Aj] at *;omega)) ?_)|((first | (refine A9 hm (by rfl) (by kernel_rfl) ?_)|(refine Det.use (hin) ?_)|(refine Det.useQ (hin) ?_)|(refine Ec.use (hin) ?_)|(refine C7.use (hin) ?_)|(refine Det.use (ih) ?_)|(refine Det.useQ (ih) ?_)|(refine Ec.use (ih) ?_)|(refine C7.use (ih) ?_)|(refine Det.use (hW) ?_)|(refine Det.useQ (hW) ?_)|(refine Ec.use (hW) ?_)|(refine C7.use (hW) ?_));simp only [Ch,Ah,Bn,Bs,Cn,Ab,Cf,Bd,A0,Bb,Cs,Be,Az,Ce,Cb,Ba,Ai,B8,Oo,D5,C2,Cp,Es,Cc,Bg,Br,Av,B0,Aq,Ll,Jp,Eh,B7,D7,He,Cv,Gi,C5,C4,En,Ag,Ae,A3,Cd,Bv,Bm,Bx,Bw,A5,Bq,B3,Fc,Bi,Ay,A4,Bt,Cy,Cz,A7,A8,B9,Aw,Ao,Al,B5,B6,Af,Am,Ap,De,A1,Cj,A2,Ad,Ac,List.map_cons,List.map_nil,List.length_cons,List.length_nil,List.append_nil,List.flatMap_cons,List.flatMap_nil,List.drop_succ_cons,List.drop_zero,List.getElem?_cons_zero,List.getElem?_cons_succ,bne_iff_ne,ne_eq,not_true_eq_false,Nat.reduceLT,Nat.reduceLeDiff,Nat.reduceEqDiff,Nat.reduceAdd,Int.reduceToNat,Int.reduceLE,true_and,and_true,Ca,Bu,↓reduceIte,reduceCtorEq,Nat.zero_add,Bool.not_false,Bool.true_and,Bool.and_true,Bool.or_true,O9,Nr,L9,Kw,Kl,Jq,J4])|(exact True.intro)|(exfalso;omega)))
     all_goals rfl
end Go.LX
