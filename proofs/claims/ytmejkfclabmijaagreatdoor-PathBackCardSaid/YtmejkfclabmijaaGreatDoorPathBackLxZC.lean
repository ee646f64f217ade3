/- Values: lists of some. -/
import Derived.Test.YtmejkfclabmijaaGreatDoorPathBackLxM
import Derived.Test.YtmejkfclabmijaaGreatDoorPathBackLxX
import Derived.Test.YtmejkfclabmijaaGreatDoorPathBackLxZB
import Derived.Test.YtmejkfclabmijaaGreatDoorPathBackLxL
set_option linter.unusedSimpArgs false
set_option linter.unusedVariables false
set_option linter.unusedSectionVars false
set_option linter.unnecessarySimpa false
set_option maxRecDepth 100000
set_option maxHeartbeats 2000000
namespace Go.LX
open Go Go.RowKit Go.Proofs
attribute [local irreducible] Bz SWP Gm
theorem u_capN {r:Regs} {K:L→Prop}:capV r K (.p .snil)=K (.p (.int .i64 0)):=(rfl)
theorem d_Grow0:Det cx 200 [.p .snil,.p (.int .i64 0)] [] (.p .snil) []:=by
 have w1:IntKind.i64.wrap 0=0:=by decide
 have c1:((0:Int)<0)=False:=by simp
 skip
 (refine Bz.of_code (X:=cx) false [] (by simp) Tryz.func200 (by kernel_rfl) rfl (by simp only [List.length_cons,List.length_nil,Tryz.ntmps200];decide) (by simp) ?_;refine Ax hm _ _ _ ?_;simp only [Tryz.ntmps200,Tryz.results200,Ch,Ah,Bn,Bs,Cn,Ab,Bd,A0,Bb,Be,Az,Cb,E1,Ba,Ai,B8,Eg,Jcy,Br,Av,B0,Aq,Nn,D1,Js,D9,Sl,Ag,Ae,A3,Bt,Cy,Cz,A7,A8,B9,Aw,Ao,Al,B5,B6,Af,Am,Ap,Cl,A1,A2,Ad,Ac,argW,List.map_cons,List.map_nil,decide_eq_true_eq,Nat.reduceLT,Nat.reduceEqDiff,Int.reduceSub,Ca,↓reduceIte,reduceCtorEq,Nat.zero_add,Bool.or_false,Bool.or_true,and_self,Qb,w1,c1,Jfm,u_capN,Z0])
 (repeat' (first | (refine iteI (fun h=>?_) (fun h=>?_))|(refine B2 (by first | omega | (simp (disch:=omega) only [Aa,Ak,Aj] at *;omega)) ?_;intro b hb)|(refine And.intro (by first | omega | (simp (disch:=omega) only [Aa,Ak,Aj] at *;omega)) ?_)|((first | (refine A9 hm (by rfl) (by kernel_rfl) ?_));simp only [Dm])|(exact True.intro)|(exfalso;omega)))
theorem d_Grow (n:Nat) (h0:0<n) (hn:n≤1000000):Det cx 200 [.p .snil,.p (.int .i64 n)] [] (.own 900 0 0) [(900,.row 53 6 [])]:=by
 have w1:IntKind.i64.wrap 0=0:=by decide
 have c1:((0:Int)<(n:Int))=True:=eq_true (by omega)
 have w2:IntKind.i64.wrap ((n:Int) - 0)=n:=by rw [Aa (by omega) (by omega)];omega
 have c2:((n:Int)<0)=False:=eq_false (by omega)
 skip
 (refine Bz.of_code (X:=cx) true [(22,900)] (by simp) Tryz.func200 (by kernel_rfl) rfl (by simp only [List.length_cons,List.length_nil,Tryz.ntmps200];decide) (by simp) ?_;refine Ax hm _ _ _ ?_;simp only [Tryz.ntmps200,Tryz.results200,Ch,Ah,Bn,Bs,Cn,Ab,Bd,A0,Bb,Cs,Be,Az,Cb,E1,Ba,Ai,B8,Ft,Eg,Fy,Jcy,Bp,Br,Av,B0,Aq,Nn,D1,Js,D9,Sl,E9,Ef,Fn,Jnr,Vn,Gy,Md,N2,So,Oi,Jez,Cr,Bk,E8,C1,B3,Dl,Ek,G0,Jbj,F1,Vm,Jnv,Jx,Aw,Ao,D2,K6,Hl,Af,Ct,F3,Fa,Dx,C9,C8,Ar,B1,E6,A2,Ad,Ac,Bl,Cg,Bf,A6,argW,List.map_cons,List.map_nil,List.length_cons,List.length_nil,decide_eq_true_eq,Nat.reduceLT,Nat.reduceEqDiff,Nat.reduceAdd,Nat.reduceSub,Int.reduceToNat,Int.reduceLE,Int.reduceSub,true_and,and_true,Ca,↓reduceIte,reduceCtorEq,Int.toNat_natCast,Int.natCast_nonneg,Nat.zero_add,Bool.true_and,Bool.and_true,Bool.or_false,Bool.or_true,and_self,Jdn,Qb,Jk,Jfx,Rr,Xa,w1,c1,w2,c2,Jfm,u_capN,Z0])
 (repeat' (first | (refine iteI (fun h=>?_) (fun h=>?_))|(refine B2 (by first | omega | (simp (disch:=omega) only [Aa,Ak,Aj] at *;omega)) ?_;intro b hb)|(refine And.intro (by first | omega | (simp (disch:=omega) only [Aa,Ak,Aj] at *;omega)) ?_)|((first | (refine A9 hm (by rfl) (by kernel_rfl) ?_));simp only [Dm])|(exact True.intro)|(exfalso;omega)))
 (repeat' (first | (refine And.intro (by first | omega | (simp;done)|(simp;omega)) ?_)))
 (repeat' (first | (refine iteI (fun h=>?_) (fun h=>?_))|(refine B2 (by first | omega | (simp (disch:=omega) only [Aa,Ak,Aj] at *;omega)) ?_;intro b hb)|(refine And.intro (by first | omega | (simp (disch:=omega) only [Aa,Ak,Aj] at *;omega)) ?_)|((first | (refine A9 hm (by rfl) (by kernel_rfl) ?_));simp only [Dm])|(exact True.intro)|(exfalso;omega)))
 omega
theorem Jn6 (l:List (List UInt8×Tree)) (k:Nat):(Dz (unn (l.take k))).enc.length≤(Dz (unn l)).enc.length:=by
 rw [Jdx];exact Yy _ _
theorem Jn4 {l:List (List UInt8×Tree)} {k:Nat} {p:List UInt8×Tree} (h:l[k]? = some p):(Dz (unn (l.take (k+1)))).enc=(Dz (unn (l.take k))).enc ++ p.2.enc []:=by
 have h':(unn l)[k]? = some ([],p.2):=by simp [unn,h]
 rw [Jdx,Jdx]
 exact Z4 h'
theorem Jkg (l:List (List UInt8×Tree)) (hv:(Dz (unn l)).enc.length≤900000):Det cx 130 [.p (.sl (El l))] [] (.p (.sl (valL (Dz (unn l)).enc))) []:=by
 have hll:=Forest.len_le (Dz (unn l))
 rw [Jv,Vs] at hll
 have z0:(Dz (unn ([]:List (List UInt8×Tree)))).enc.length=0:=by simp [unn,Dz,Jf]
 have z1:(Dz (unn ([]:List (List UInt8×Tree)))).enc=[]:=by simp [unn,Dz,Jf]
 skip
 (refine Bz.of_code (X:=cx) false [] (by simp) Tryz.func130 (by kernel_rfl) rfl (by simp only [List.length_cons,List.length_nil,Tryz.ntmps130];decide) (by simp) ?_;refine Ax hm _ _ _ ?_;simp only [Tryz.ntmps130,Tryz.results130,Ah,Bn,Ci,H9,Ab,Bd,A0,Bb,Be,Az,Cb,E1,Ba,Ai,Eg,D9,D0,Ad,Ac,argW,List.map_cons,List.map_nil,Nat.reduceLT,Ca,↓reduceIte,reduceCtorEq,O4,E5])
 (repeat' (first | (refine iteI (fun h=>?_) (fun h=>?_))|(refine B2 (by first | omega | (simp (disch:=omega) only [Aa,Ak,Aj] at *;omega)) ?_;intro b hb)|(refine And.intro (by first | omega | (simp (disch:=omega) only [Aa,Ak,Aj] at *;omega)) ?_)|((first | (refine A9 hm (by rfl) (by kernel_rfl) ?_));simp only [Dm])|(exact True.intro)|(exfalso;omega)))
 refine SWP.loop (fun k:Nat=>⟨Fo 36 [(0,.p (.sl (El l))),(3,.p (.int .i64 (Dz (unn (l.take k))).enc.length)),(9,.p (.sl (El l))),(10,.p (.int .i64 l.length)),(11,.p (.int .i64 k))],[]⟩) (fun k=>k≤l.length) (fun k=>l.length - k) 0 (by simp only [List.take_zero,z0];exact (St.le_slots (by simp only [Ck,Cm,Ac,Bj,Au,Nat.reduceEqDiff,reduceIte,Nat.reduceLT,Nat.reduceLeDiff];simp (disch:=omega) [Au,Bc,Cq,Aa] <;> (repeat' apply And.intro) <;> omega) (by simp (disch:=omega) [Dj,Eo,Dg,Bh,Au,Bc,Cq,Aa]) (by simp [Dk]))) (Nat.zero_le _) ?_
 intro k hk
 by_cases hlt:¬ k<l.length
 ·have c1:((k:Int)<(l.length:Int))=False:=eq_false (by omega)
  have tk:l.take k=l:=List.take_of_length_le (by omega)
  have hg:=c1
  have w1:=c1
  have w2:=c1
  have c2:=c1
  skip
  by_cases hl0:l=[]
  ·subst hl0
   have hG:=d_Grow0
   skip
   (refine Ax hm _ _ _ ?_;simp only [Ch,Ah,Bn,Bs,Ci,Fd,Ab,Co,B4,Bd,A0,Bb,Be,Az,Ce,E1,Ba,B8,Cp,Cc,Br,Av,Aq,D1,B7,D7,Ag,Ae,A3,Cd,Bv,Bm,Bx,Bw,A5,B3,Bi,Ay,A4,Cj,Ad,Ac,Ea,List.map_cons,List.map_nil,List.length_nil,List.append_nil,List.flatMap_cons,List.flatMap_nil,List.take_nil,decide_eq_true_eq,Nat.reduceLT,Nat.reduceEqDiff,true_and,Ca,Bu,↓reduceIte,reduceCtorEq,Int.toNat_natCast,Int.natCast_nonneg,Bool.true_and,Bool.or_false,Ld,tk,z0])
   (repeat' (first | (refine iteI (fun h=>?_) (fun h=>?_))|(refine B2 (by first | omega | (simp (disch:=omega) only [Aa,Ak,Aj] at *;omega)) ?_;intro b hb)|(refine And.intro (by first | omega | (simp (disch:=omega) only [Aa,Ak,Aj] at *;omega)) ?_)|((first | (refine A9 hm (by rfl) (by kernel_rfl) ?_)|(refine Det.use (hG) ?_)|(refine Det.useQ (hG) ?_)|(refine Ec.use (hG) ?_)|(refine C7.use (hG) ?_));simp only [Ah,Bn,Ci,H9,Ab,Bd,A0,Bb,Cs,Be,Az,Cb,Ba,Ai,Eg,D9,D0,Bq,B3,Ad,Ac,List.map_cons,List.map_nil,List.length_nil,Nat.reduceLT,Ca,↓reduceIte,reduceCtorEq,O4,E5])|(exact True.intro)|(exfalso;omega)))
   refine SWP.loop (fun i:Nat=>⟨Fo 36 [(6,.p (.sl [])),(25,.p (.sl [])),(26,.p (.int .i64 0)),(27,.p (.int .i64 0))],[]⟩) (fun _=>True) (fun _=>0) 0 (St.le_slots (by simp only [Ck,Cm,Ac,Bj,Au,Nat.reduceEqDiff,reduceIte,Nat.reduceLT,Nat.reduceLeDiff];simp (disch:=omega) [Au,Bc,Cq,Aa] <;> (repeat' apply And.intro) <;> omega) (by simp (disch:=omega) [Dj,Eo,Dg,Bh,Au,Bc,Cq,Aa]) (by simp [Dk])) trivial ?_
   intro i _
   (refine Ax hm _ _ _ ?_;simp only [Ah,Bn,Bs,Fd,Cn,Ab,Co,B4,Bd,A0,Bb,Be,Ba,Ai,B8,Br,Av,Aq,D1,Ag,Ae,A3,Bt,Cy,Cz,A7,A8,B9,Aw,Ao,Al,B5,B6,Af,Am,Ap,Cl,A1,A2,Ad,Ac,Ea,List.map_cons,List.map_nil,decide_eq_true_eq,Nat.reduceLT,Nat.reduceEqDiff,Int.reduceLT,and_true,Ca,↓reduceIte,L.p.injEq,Bool.and_true,Bool.or_false])
   (repeat' (first | (refine iteI (fun h=>?_) (fun h=>?_))|(refine B2 (by first | omega | (simp (disch:=omega) only [Aa,Ak,Aj] at *;omega)) ?_;intro b hb)|(refine And.intro (by first | omega | (simp (disch:=omega) only [Aa,Ak,Aj] at *;omega)) ?_)|((first | (refine A9 hm (by rfl) (by kernel_rfl) ?_));simp only [Dm])|(exact True.intro)|(exfalso;omega)))
   rw [z1];rfl
  ·have hpos:0<(Dz (unn l)).enc.length:=by
    have:0<l.length:=by cases l <;> simp at hl0 ⊢
    omega
   have hG:=d_Grow (Dz (unn l)).enc.length hpos (by omega)
   (refine Ax hm _ _ _ ?_;simp only [Ah,Bn,Bs,Fd,Ab,Co,B4,Bd,A0,Bb,Be,Az,Ce,E1,Ba,B8,Cc,Br,Av,Aq,D1,Ag,Ae,A3,Cd,Bv,Bm,Bx,Bw,A5,B3,Bi,Ay,A4,Cj,Ad,Ac,Ea,List.map_cons,List.map_nil,List.append_nil,List.flatMap_cons,List.flatMap_nil,decide_eq_true_eq,Nat.reduceLT,Nat.reduceEqDiff,Ca,Bu,↓reduceIte,reduceCtorEq,Bool.or_false,c1,tk])
   (repeat' (first | (refine iteI (fun h=>?_) (fun h=>?_))|(refine B2 (by first | omega | (simp (disch:=omega) only [Aa,Ak,Aj] at *;omega)) ?_;intro b hb)|(refine And.intro (by first | omega | (simp (disch:=omega) only [Aa,Ak,Aj] at *;omega)) ?_)|((first | (refine A9 hm (by rfl) (by kernel_rfl) ?_)|(refine Det.use (hG) ?_)|(refine Det.useQ (hG) ?_)|(refine Ec.use (hG) ?_)|(refine C7.use (hG) ?_));simp only [Ah,Bn,Ci,H9,Ab,Bd,A0,Bb,Cs,Be,Az,Cb,Ba,Ai,Eg,D9,D0,H4,Hv,Dn,Gc,Df,Gu,Hm,K8,E4,Gv,Jd,Bk,Gx,C1,B3,Dl,Ek,Ar,Ad,Ac,Cg,Bf,A6,List.map_cons,List.map_nil,List.append_nil,Nat.reduceLT,Ca,↓reduceIte,reduceCtorEq,O4,E5])|(exact True.intro)|(exfalso;omega)))
   refine SWP.of_le (Ix [(24,33)] _ (by simp)) ?_
   simp only [Bk,E8,C1,B3,Dl,Ek,Af,Ct,F3,Fa,Dx,C9,C8,Cg,Bf,A6,↓reduceIte]
   refine SWP.loop (fun k:Nat=>⟨Fo 36 [(6,.own 33 0 (Dz (unn (l.take k))).enc.length),(25,.p (.sl (El l))),(26,.p (.int .i64 l.length)),(27,.p (.int .i64 k))],[(33,.row 53 6 (valL (Dz (unn (l.take k))).enc))]⟩) (fun k=>k≤l.length) (fun k=>l.length - k) 0 (by simp only [List.take_zero,z0,z1,valL_nil];exact (St.le_slots (by simp only [Ck,Cm,Ac,Bj,Au,Nat.reduceEqDiff,reduceIte,Nat.reduceLT,Nat.reduceLeDiff];simp (disch:=omega) [Au,Bc,Cq,Aa] <;> (repeat' apply And.intro) <;> omega) (by simp (disch:=omega) [Dj,Eo,Dg,Bh,Au,Bc,Cq,Aa]) (by simp [Dk]))) (Nat.zero_le _) ?_
   intro j hj
   by_cases hjt:¬ j<l.length
   ·have d1:((j:Int)<(l.length:Int))=False:=eq_false (by omega)
    have tj:l.take j=l:=List.take_of_length_le (by omega)
    have tv:(valL (Dz (unn l)).enc).take (Dz (unn l)).enc.length=valL (Dz (unn l)).enc:=List.take_of_length_le (by simp)
    have lv:((Dz (unn l)).enc.length≤(Dz (unn l)).enc.length)=True:=eq_true (Nat.le_refl _)
    have hg2:=d1
    have w3:=d1
    skip
    (refine Ax hm _ _ _ ?_;simp only [Ah,Bn,Bs,Fd,Cn,Ab,Co,B4,Bd,A0,Bb,Be,Ba,Ai,B8,Br,Av,Aq,D1,Ag,Ae,F8,Gq,Fk,Gs,Bt,Cy,Cz,A7,A8,B9,Aw,Ao,Al,B5,B6,Af,Am,Ap,Cl,A1,Ar,D8,Dv,Jg,Hy,A2,Ad,Ac,Dc,Bf,A6,Ea,List.map_cons,List.map_nil,List.drop_zero,decide_eq_true_eq,Nat.reduceLT,Nat.reduceEqDiff,Ca,↓reduceIte,Nat.zero_add,Bool.or_false,and_self,Iz,d1,tj,tv,lv])
    (repeat' (first | (refine iteI (fun h=>?_) (fun h=>?_))|(refine B2 (by first | omega | (simp (disch:=omega) only [Aa,Ak,Aj] at *;omega)) ?_;intro b hb)|(refine And.intro (by first | omega | (simp (disch:=omega) only [Aa,Ak,Aj] at *;omega)) ?_)|((first | (refine A9 hm (by rfl) (by kernel_rfl) ?_));simp only [Dm])|(exact True.intro)|(exfalso;omega)))
   ·have hjt:=Decidable.not_not.1 hjt
    have d1:((j:Int)<(l.length:Int))=True:=eq_true (by omega)
    obtain ⟨p,hp⟩:∃ p,l[j]? = some p:=⟨_,List.getElem?_eq_getElem hjt⟩
    have hg2:(El l)[j]? = some [.sl (valL (p.2.enc []))]:=by simp [El,hp]
    have hs:=Jn6 l (j+1)
    have h1:=Jn4 hp
    rw [h1,List.length_append] at hs
    have w3:=wj1 (i:=j) (by omega)
    have tj:=d1
    have tv:=d1
    have lv:=d1
    (refine Ax hm _ _ _ ?_;simp only [Ch,Ah,Bn,Bs,Ci,Ab,Bo,Bd,A0,Bb,Cs,Be,Az,Cb,Ba,Ai,B8,D5,Cp,Fy,Bp,Bg,Br,Av,B0,Aq,Hb,D1,Eh,B7,D7,He,C5,C4,Cr,G1,Ii,G0,F1,Pr,Lu,Gb,Km,Ar,B1,Cw,E6,G2,I5,F5,Ad,Ac,Bl,Bf,A6,Ea,List.map_cons,List.map_nil,List.length_cons,List.length_nil,List.getElem?_cons_zero,decide_eq_true_eq,Nat.reduceLT,Nat.reduceEqDiff,Nat.reduceAdd,true_and,Ca,↓reduceIte,Int.toNat_natCast,Int.natCast_nonneg,Nat.zero_add,Bool.true_and,Bool.or_false,Bool.or_true,Qa,Mx,Jk,Ld,Rr,Xa,Iz,d1,hg2,w3])
    refine ⟨Ou _,by omega,by omega,?_⟩
    (repeat' (first | (refine iteI (fun h=>?_) (fun h=>?_))|(refine B2 (by first | omega | (simp (disch:=omega) only [Aa,Ak,Aj] at *;omega)) ?_;intro b hb)|(refine And.intro (by first | omega | (simp (disch:=omega) only [Aa,Ak,Aj] at *;omega)) ?_)|((first | (refine A9 hm (by rfl) (by kernel_rfl) ?_));simp only [Dm])|(exact True.intro)|(exfalso;omega)))
    refine ⟨j+1,hjt,by omega,?_⟩
    rw [h1,List.length_append,U3]
    exact (St.le_slots (by simp only [Ck,Cm,Ac,Bj,Au,Nat.reduceEqDiff,reduceIte,Nat.reduceLT,Nat.reduceLeDiff];simp (disch:=omega) [Au,Bc,Cq,Aa] <;> (repeat' apply And.intro) <;> omega) (by simp (disch:=omega) [Dj,Eo,Dg,Bh,Au,Bc,Cq,Aa]) (by simp [Dk]))
 ·have hlt:=Decidable.not_not.1 hlt
  have c1:((k:Int)<(l.length:Int))=True:=eq_true (by omega)
  obtain ⟨p,hp⟩:∃ p,l[k]? = some p:=⟨_,List.getElem?_eq_getElem hlt⟩
  have hg:(El l)[k]? = some [.sl (valL (p.2.enc []))]:=by simp [El,hp]
  have hs:=Jn6 l (k+1)
  have h1:=Jn4 hp
  rw [h1,List.length_append] at hs
  have tk:=c1
  have w1:=wj1 (i:=k) (by omega)
  have w2:IntKind.i64.wrap (((Dz (unn (l.take k))).enc.length:Int)+((p.2.enc []).length:Int))=(((Dz (unn (l.take k))).enc.length+(p.2.enc []).length:Nat):Int):=by rw [Aa (by omega) (by omega)];omega
  have c2:((((Dz (unn (l.take k))).enc.length+(p.2.enc []).length:Nat):Int)<0)=False:=eq_false (by omega)
  have d1:=c1
  have tj:=c1
  have tv:=c1
  have lv:=c1
  have hg2:=c1
  have w3:=c1
  (refine Ax hm _ _ _ ?_;simp only [Ch,Ah,Bn,Bs,Ci,Ab,Bo,Bd,A0,Bb,Be,Az,Cb,Ba,Ai,B8,D5,Cp,Eg,Bg,Br,Av,B0,Aq,Hb,D1,D9,D0,Eh,B7,D7,He,C5,C4,Ad,Ac,Ea,List.map_cons,List.map_nil,List.length_cons,List.length_nil,List.getElem?_cons_zero,decide_eq_true_eq,Nat.reduceLT,Nat.reduceEqDiff,true_and,Ca,↓reduceIte,reduceCtorEq,Int.toNat_natCast,Int.natCast_nonneg,Nat.zero_add,Bool.true_and,Bool.or_false,Bool.or_true,Qb,Qa,Mx,Ld,Iz,c1,hg,w1,w2,c2])
  (repeat' (first | (refine And.intro (by first | omega | (simp;done)|(simp;omega)) ?_)))
  (repeat' (first | (refine iteI (fun h=>?_) (fun h=>?_))|(refine B2 (by first | omega | (simp (disch:=omega) only [Aa,Ak,Aj] at *;omega)) ?_;intro b hb)|(refine And.intro (by first | omega | (simp (disch:=omega) only [Aa,Ak,Aj] at *;omega)) ?_)|((first | (refine A9 hm (by rfl) (by kernel_rfl) ?_));simp only [Dm])|(exact True.intro)|(exfalso;omega)))
  refine ⟨k+1,hlt,by omega,?_⟩
  rw [h1,List.length_append]
  exact (St.le_slots (by simp only [Ck,Cm,Ac,Bj,Au,Nat.reduceEqDiff,reduceIte,Nat.reduceLT,Nat.reduceLeDiff];simp (disch:=omega) [Au,Bc,Cq,Aa] <;> (repeat' apply And.intro) <;> omega) (by simp (disch:=omega) [Dj,Eo,Dg,Bh,Au,Bc,Cq,Aa]) (by simp [Dk]))
end Go.LX
set_option maxRecDepth 100000
set_option maxHeartbeats 2000000
namespace Go.LX
open Go Go.RowKit Go.Proofs
attribute [local irreducible] Bz SWP Gm
end Go.LX
set_option maxRecDepth 100000
set_option maxHeartbeats 2000000
namespace Go.LX
open Go Go.RowKit Go.Proofs
attribute [local irreducible] Bz SWP Gm
theorem valL_at {v:List Node} {i:Nat} {n:Node} (h:v[i]? = some n):(valL v)[i]? = some [.int .i64 n.kind,.int .i64 n.many,.str n.name,.str n.s,.bool n.neg,.int .i64 n.e]:=by
 simp [valL,h,Node.cells]
end Go.LX
set_option maxRecDepth 100000
set_option maxHeartbeats 2000000
namespace Go.LX
open Go Go.RowKit Go.Proofs
attribute [local irreducible] Bz SWP Gm
theorem Jk4 {v:List Node} {i:Nat} {n:Node} (h:v[i]? = some n):(valL v)[i]? = some [.int .i64 n.kind,.int .i64 n.many,.str n.name,.str n.s,.bool n.neg,.int .i64 n.e]:=by
 simp [valL,h,Node.cells]
def Jg8 (x y:Node):Prop:=x.kind=y.kind∧x.many=y.many∧x.name=y.name∧x.s=y.s∧x.neg=y.neg∧x.e=y.e
theorem Jel {x y:Node}:Jg8 x y ↔ x=y:=by
 unfold Jg8
 constructor
 ·rintro ⟨h1,h2,h3,h4,h5,h6⟩
  cases x;cases y
  simp_all
 ·rintro rfl;exact ⟨rfl,rfl,rfl,rfl,rfl,rfl⟩
instance (x y:Node):Decidable (Jg8 x y):=inferInstanceAs (Decidable (_∧_))
instance:DecidableEq Node:=fun x y=>decidable_of_iff _ (Jel (x:=x) (y:=y))
theorem nodeB {x y:Node}:(x.kind == y.kind && (x.many == y.many && (x.name == y.name && (x.s == y.s && (x.neg == y.neg && x.e == y.e)))))=decide (x=y):=by
 rw [Bool.eq_iff_iff,decide_eq_true_eq,← Jel];simp [Jg8]
theorem Jqi (v u:List Node) (hv:v.length≤1000000) (hu:u.length≤1000000):Det cx 28 [.p (.sl (valL v)),.p (.sl (valL u))] [] (.p (.bool (decide (v=u)))) []:=by
 by_cases hl:v.length=u.length
 ·have c0:((v.length:Int)=(u.length:Int))=True:=eq_true (by omega)
  skip
  (refine Bz.of_code (X:=cx) false [] (by simp) Tryz.func28 (by kernel_rfl) rfl (by simp only [List.length_cons,List.length_nil,Tryz.ntmps28];decide) (by simp) ?_;refine Ax hm _ _ _ ?_;simp only [Tryz.ntmps28,Tryz.results28,Ch,Ah,Bn,Bs,Ci,H9,Ab,Bd,A0,Bb,Be,Az,C0,Cb,Ba,Ai,B8,Eg,Br,Av,Aq,Ll,D9,D0,Ad,Ac,argW,List.map_cons,List.map_nil,bne_iff_ne,ne_eq,not_true_eq_false,Nat.reduceLT,Nat.reduceEqDiff,Ca,↓reduceIte,reduceCtorEq,Nat.zero_add,Bool.or_false,Qb,Iz,c0])
  (repeat' (first | (refine iteI (fun h=>?_) (fun h=>?_))|(refine B2 (by first | omega | (simp (disch:=omega) only [Aa,Ak,Aj] at *;omega)) ?_;intro b hb)|(refine And.intro (by first | omega | (simp (disch:=omega) only [Aa,Ak,Aj] at *;omega)) ?_)|((first | (refine A9 hm (by rfl) (by kernel_rfl) ?_));simp only [Dm])|(exact True.intro)|(exfalso;omega)))
  refine SWP.loop (fun i:Nat=>⟨Fo 26 [(0,.p (.sl (valL v))),(1,.p (.sl (valL u))),(5,.p (.int .i64 i))],[]⟩) (fun i=>i≤v.length∧v.take i=u.take i) (fun i=>v.length - i) 0 (St.le_slots (by simp only [Ck,Cm,Ac,Bj,Au,Nat.reduceEqDiff,reduceIte,Nat.reduceLT,Nat.reduceLeDiff];simp (disch:=omega) [Au,Bc,Cq,Aa] <;> (repeat' apply And.intro) <;> omega) (by simp (disch:=omega) [Dj,Eo,Dg,Bh,Au,Bc,Cq,Aa]) (by simp [Dk])) ⟨Nat.zero_le _,rfl⟩ ?_
  rintro i ⟨h1,h3⟩
  by_cases hi:¬ i<v.length
  ·have c1:((i:Int)<(v.length:Int))=False:=eq_false (by omega)
   have hgx:=c1
   have hgy:=c1
   skip
   (refine Ax hm _ _ _ ?_;simp only [Ah,Bn,Bs,Fd,Cn,Ab,Co,B4,Bd,A0,Bb,Be,Az,C0,Ba,Ai,B8,Eg,Br,Av,Aq,D1,D9,D0,Ag,Ae,A3,Bt,Cy,Cz,A7,A8,B9,Aw,Ao,Al,B5,B6,Af,Am,Ap,Cl,A1,A2,Ad,Ac,Ea,List.map_cons,List.map_nil,decide_eq_true_eq,Nat.reduceLT,Nat.reduceEqDiff,and_true,Ca,↓reduceIte,reduceCtorEq,L.p.injEq,PV.bool.injEq,Bool.and_true,Bool.or_false,Qb,Iz,c1])
   (repeat' (first | (refine iteI (fun h=>?_) (fun h=>?_))|(refine B2 (by first | omega | (simp (disch:=omega) only [Aa,Ak,Aj] at *;omega)) ?_;intro b hb)|(refine And.intro (by first | omega | (simp (disch:=omega) only [Aa,Ak,Aj] at *;omega)) ?_)|((first | (refine A9 hm (by rfl) (by kernel_rfl) ?_));simp only [Dm])|(exact True.intro)|(exfalso;omega)))
   rw [List.take_of_length_le (by omega),List.take_of_length_le (by omega)] at h3
   exact (decide_eq_true h3).symm
  ·have hi:=Decidable.not_not.1 hi
   have c1:((i:Int)<(v.length:Int))=True:=eq_true (by omega)
   obtain ⟨x,hx⟩:∃ x,v[i]? = some x:=⟨_,List.getElem?_eq_getElem hi⟩
   obtain ⟨y,hy⟩:∃ y,u[i]? = some y:=⟨_,List.getElem?_eq_getElem (by omega)⟩
   have hgx:=Jk4 hx
   have hgy:=Jk4 hy
   have w1:=wi1 (i:=i) (by omega)
   skip
   (refine Ax hm _ _ _ ?_;simp only [Ch,Ah,Bn,Bs,Ci,Ab,Bd,A0,Bb,Be,Ba,B8,Eg,Iv,Br,Av,Aq,D1,D9,D0,Ad,Ac,List.map_cons,List.map_nil,decide_eq_true_eq,Nat.reduceLT,Nat.reduceEqDiff,Ca,↓reduceIte,reduceCtorEq,Bool.or_false,Qb,Iz,c1])
   (repeat' (first | (refine And.intro (by first | omega | (simp;done)|(simp;omega)) ?_)))
   (repeat' (first | (refine iteI (fun h=>?_) (fun h=>?_))|(refine B2 (by first | omega | (simp (disch:=omega) only [Aa,Ak,Aj] at *;omega)) ?_;intro b hb)|(refine And.intro (by first | omega | (simp (disch:=omega) only [Aa,Ak,Aj] at *;omega)) ?_)|((first | (refine A9 hm (by rfl) (by kernel_rfl) ?_));simp only [Ch,Ah,Bn,Bs,Cn,Ab,Cf,Bo,Ei,Bd,A0,Nc,J6,Bb,Be,Az,C0,Cb,Ba,Ai,B8,Je,Nq,L2,Ig,Bp,Bg,Br,Av,Ja7,V1,B0,Aq,Jng,Vl,Qg,Pe,Qi,Qm,Hb,Eh,B7,D7,C5,Ic,Ag,Ae,A3,Bt,Cy,Cz,A7,A8,B9,Aw,Ao,Al,B5,B6,Af,Am,Ap,Cl,A1,A2,Ad,Ac,Ea,List.map_cons,List.map_nil,List.length_cons,List.length_nil,List.take_succ_cons,List.take_nil,decide_eq_false_iff_not,Bool.not_eq_eq_eq_not,Nat.reduceLT,Nat.reduceLeDiff,Nat.reduceEqDiff,Nat.reduceAdd,true_and,and_true,Ca,↓reduceIte,reduceCtorEq,Int.toNat_natCast,Int.natCast_nonneg,Nat.zero_add,Bool.not_true,L.p.injEq,PV.bool.injEq,Bool.true_and,Bool.and_true,Bool.or_false,Bool.or_true,Jk,Jom,Jfx,f_t53,nodeB,hgx,hgy,w1])|(exact True.intro)|(exfalso;omega)))
   ·have hxy:=(show ¬ x=y by assumption)
    refine (decide_eq_false fun e=>hxy ?_).symm
    subst e;rw [hx] at hy;exact Option.some.inj hy
   ·have hxy:=Decidable.not_not.1 (show ¬ ¬ x=y by assumption)
    subst hxy
    refine ⟨i+1,⟨by omega,?_⟩,by omega,(St.le_slots (by simp only [Ck,Cm,Ac,Bj,Au,Nat.reduceEqDiff,reduceIte,Nat.reduceLT,Nat.reduceLeDiff];simp (disch:=omega) [Au,Bc,Cq,Aa] <;> (repeat' apply And.intro) <;> omega) (by simp (disch:=omega) [Dj,Eo,Dg,Bh,Au,Bc,Cq,Aa]) (by simp [Dk]))⟩
    rw [List.take_add_one,List.take_add_one,h3,hx,hy]
 ·have c0:((v.length:Int)=(u.length:Int))=False:=eq_false (by omega)
  have c1:=c0
  have hgx:=c0
  have hgy:=c0
  have w1:=c0
  (refine Bz.of_code (X:=cx) false [] (by simp) Tryz.func28 (by kernel_rfl) rfl (by simp only [List.length_cons,List.length_nil,Tryz.ntmps28];decide) (by simp) ?_;refine Ax hm _ _ _ ?_;simp only [Tryz.ntmps28,Tryz.results28,Ah,Bn,Bs,Cn,Ab,Cf,Bd,A0,Bb,Be,Az,C0,Ba,Ai,B8,Eg,Br,Av,Aq,Ll,D9,D0,Ag,Ae,A3,Bt,Cy,Cz,A7,A8,B9,Aw,Ao,Al,B5,B6,Af,Am,Ap,Cl,A1,A2,Ad,Ac,argW,List.map_cons,List.map_nil,bne_iff_ne,ne_eq,not_false_eq_true,Nat.reduceLT,Nat.reduceEqDiff,and_true,Ca,↓reduceIte,reduceCtorEq,Nat.zero_add,L.p.injEq,PV.bool.injEq,Bool.and_true,Bool.or_false,Qb,Iz,c0])
  (repeat' (first | (refine iteI (fun h=>?_) (fun h=>?_))|(refine B2 (by first | omega | (simp (disch:=omega) only [Aa,Ak,Aj] at *;omega)) ?_;intro b hb)|(refine And.intro (by first | omega | (simp (disch:=omega) only [Aa,Ak,Aj] at *;omega)) ?_)|((first | (refine A9 hm (by rfl) (by kernel_rfl) ?_));simp only [Dm])|(exact True.intro)|(exfalso;omega)))
  exact (decide_eq_false fun e=>hl (by rw [e])).symm
end Go.LX
set_option maxRecDepth 100000
set_option maxHeartbeats 2000000
namespace Go.LX
open Go Go.RowKit Go.Proofs
attribute [local irreducible] Bz SWP Gm
end Go.LX
