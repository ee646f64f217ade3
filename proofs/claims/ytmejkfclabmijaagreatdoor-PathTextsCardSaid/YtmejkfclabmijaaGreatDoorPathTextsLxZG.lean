/- Values: lists of some. -/
import Derived.Test.YtmejkfclabmijaaGreatDoorPathTextsLxM
import Derived.Test.YtmejkfclabmijaaGreatDoorPathTextsLxZB
import Derived.Test.YtmejkfclabmijaaGreatDoorPathTextsLxZF
import Derived.Test.YtmejkfclabmijaaGreatDoorPathTextsLxL
set_option linter.unusedSimpArgs false
set_option linter.unusedVariables false
set_option linter.unusedSectionVars false
set_option linter.unnecessarySimpa false
set_option maxRecDepth 100000
set_option maxHeartbeats 2000000
namespace Go.LX
open Go Go.RowKit Go.Proofs
attribute [local irreducible] B2 SWP Hb
theorem u_capN {r:Regs} {K:L→Prop}:capV r K (.p .snil)=K (.p (.int .i64 0)):=(rfl)
theorem d_Grow0:Det cx 200 [.p .snil,.p (.int .i64 0)] [] (.p .snil) []:=by
 have w1:IntKind.i64.wrap 0=0:=by decide
 have c1:((0:Int)<0)=False:=by simp
 skip
 (refine B2.of_code (X:=cx) false [] (by simp) Tryz.func200 (by kernel_rfl) rfl (by simp only [List.length_cons,List.length_nil,Tryz.ntmps200];decide) (by simp) ?_;refine Ax hm _ _ _ ?_;simp only [Tryz.ntmps200,Tryz.results200,Cb,Ah,Bm,Br,Cn,Ab,Bd,A1,Bc,Bf,A0,Ca,E4,A9,Aj,B8,Dw,Jc0,Bq,Au,Bt,Ar,M5,Dm,Je,Ds,S5,Ag,Ae,A3,Bs,Cs,Cr,A6,A7,B9,Av,Ap,Al,B7,B5,Af,Am,Ao,Co,Ay,A2,Ad,Ac,argW,List.map_cons,List.map_nil,decide_eq_true_eq,Nat.reduceLT,Nat.reduceEqDiff,Int.reduceSub,Cc,↓reduceIte,reduceCtorEq,Nat.zero_add,Bool.or_false,Bool.or_true,and_self,Qx,w1,c1,Jhg,u_capN,Jay])
 (repeat' (first | (refine iteI (fun h=>?_) (fun h=>?_))|(refine B1 (by first | omega | (simp (disch:=omega) only [Aa,Ak,Ai] at *;omega)) ?_;intro b hb)|(refine And.intro (by first | omega | (simp (disch:=omega) only [Aa,Ak,Ai] at *;omega)) ?_)|((first | (refine Ba hm (by rfl) (by kernel_rfl) ?_));simp only [Dh])|(exact True.intro)|(exfalso;omega)))
theorem d_Grow (n:Nat) (h0:0<n) (hn:n≤1000000):Det cx 200 [.p .snil,.p (.int .i64 n)] [] (.own 900 0 0) [(900,.row 53 6 [])]:=by
 have w1:IntKind.i64.wrap 0=0:=by decide
 have c1:((0:Int)<(n:Int))=True:=eq_true (by omega)
 have w2:IntKind.i64.wrap ((n:Int) - 0)=n:=by rw [Aa (by omega) (by omega)];omega
 have c2:((n:Int)<0)=False:=eq_false (by omega)
 skip
 (refine B2.of_code (X:=cx) true [(22,900)] (by simp) Tryz.func200 (by kernel_rfl) rfl (by simp only [List.length_cons,List.length_nil,Tryz.ntmps200];decide) (by simp) ?_;refine Ax hm _ _ _ ?_;simp only [Tryz.ntmps200,Tryz.results200,Cb,Ah,Bm,Br,Cn,Ab,Bd,A1,Bc,Ct,Bf,A0,Ca,E4,A9,Aj,B8,E7,Dw,F8,Jc0,Bo,Bq,Au,Bt,Ar,M5,Dm,Je,Ds,S5,Ev,D5,E2,Jpp,V0,Gf,Mz,Oj,Td,O7,Jg1,Cu,Bu,Fn,Di,B6,D2,Ey,Hc,Jb2,F5,Wa,Jot,Km,Av,Ap,Em,Ls,H5,Af,C3,Gj,Fl,D8,Dr,Du,Aw,B4,Ez,A2,Ad,Ac,Bn,Cq,Bg,Bb,argW,List.map_cons,List.map_nil,List.length_cons,List.length_nil,decide_eq_true_eq,Nat.reduceLT,Nat.reduceEqDiff,Nat.reduceAdd,Nat.reduceSub,Int.reduceToNat,Int.reduceLE,Int.reduceSub,true_and,and_true,Cc,↓reduceIte,reduceCtorEq,Int.toNat_natCast,Int.natCast_nonneg,Nat.zero_add,Bool.true_and,Bool.and_true,Bool.or_false,Bool.or_true,and_self,Uq,Qx,Kc,Jg0,Sd,Yv,w1,c1,w2,c2,Jhg,u_capN,Jay])
 (repeat' (first | (refine iteI (fun h=>?_) (fun h=>?_))|(refine B1 (by first | omega | (simp (disch:=omega) only [Aa,Ak,Ai] at *;omega)) ?_;intro b hb)|(refine And.intro (by first | omega | (simp (disch:=omega) only [Aa,Ak,Ai] at *;omega)) ?_)|((first | (refine Ba hm (by rfl) (by kernel_rfl) ?_));simp only [Dh])|(exact True.intro)|(exfalso;omega)))
 (repeat' (first | (refine And.intro (by first | omega | (simp;done)|(simp;omega)) ?_)))
 (repeat' (first | (refine iteI (fun h=>?_) (fun h=>?_))|(refine B1 (by first | omega | (simp (disch:=omega) only [Aa,Ak,Ai] at *;omega)) ?_;intro b hb)|(refine And.intro (by first | omega | (simp (disch:=omega) only [Aa,Ak,Ai] at *;omega)) ?_)|((first | (refine Ba hm (by rfl) (by kernel_rfl) ?_));simp only [Dh])|(exact True.intro)|(exfalso;omega)))
 omega
theorem Jo3 (l:List (List UInt8×Tree)) (k:Nat):(Ej (unn (l.take k))).enc.length≤(Ej (unn l)).enc.length:=by
 rw [Jcr];exact Z3 _ _
theorem Joo {l:List (List UInt8×Tree)} {k:Nat} {p:List UInt8×Tree} (h:l[k]? = some p):(Ej (unn (l.take (k+1)))).enc=(Ej (unn (l.take k))).enc ++ p.2.enc []:=by
 have h':(unn l)[k]? = some ([],p.2):=by simp [unn,h]
 rw [Jcr,Jcr]
 exact Zn h'
theorem Jkm (l:List (List UInt8×Tree)) (hv:(Ej (unn l)).enc.length≤900000):Det cx 130 [.p (.sl (E3 l))] [] (.p (.sl (valL (Ej (unn l)).enc))) []:=by
 have hll:=Forest.len_le (Ej (unn l))
 rw [Kk,Wc] at hll
 have z0:(Ej (unn ([]:List (List UInt8×Tree)))).enc.length=0:=by simp [unn,Ej,J1]
 have z1:(Ej (unn ([]:List (List UInt8×Tree)))).enc=[]:=by simp [unn,Ej,J1]
 skip
 (refine B2.of_code (X:=cx) false [] (by simp) Tryz.func130 (by kernel_rfl) rfl (by simp only [List.length_cons,List.length_nil,Tryz.ntmps130];decide) (by simp) ?_;refine Ax hm _ _ _ ?_;simp only [Tryz.ntmps130,Tryz.results130,Ah,Bm,Ce,He,Ab,Bd,A1,Bc,Bf,A0,Ca,E4,A9,Aj,Dw,Ds,D4,Ad,Ac,argW,List.map_cons,List.map_nil,Nat.reduceLT,Cc,↓reduceIte,reduceCtorEq,Ps,Fo])
 (repeat' (first | (refine iteI (fun h=>?_) (fun h=>?_))|(refine B1 (by first | omega | (simp (disch:=omega) only [Aa,Ak,Ai] at *;omega)) ?_;intro b hb)|(refine And.intro (by first | omega | (simp (disch:=omega) only [Aa,Ak,Ai] at *;omega)) ?_)|((first | (refine Ba hm (by rfl) (by kernel_rfl) ?_));simp only [Dh])|(exact True.intro)|(exfalso;omega)))
 refine SWP.loop (fun k:Nat=>⟨Fp 36 [(0,.p (.sl (E3 l))),(3,.p (.int .i64 (Ej (unn (l.take k))).enc.length)),(9,.p (.sl (E3 l))),(10,.p (.int .i64 l.length)),(11,.p (.int .i64 k))],[]⟩) (fun k=>k≤l.length) (fun k=>l.length - k) 0 (by simp only [List.take_zero,z0];exact (St.le_slots (by simp only [Cd,Ck,Ac,Be,Aq,Nat.reduceEqDiff,reduceIte,Nat.reduceLT,Nat.reduceLeDiff];simp (disch:=omega) [Aq,A8,Cm,Aa] <;> (repeat' apply And.intro) <;> omega) (by simp (disch:=omega) [Dc,Ee,C9,Bj,Aq,A8,Cm,Aa]) (by simp [De]))) (Nat.zero_le _) ?_
 intro k hk
 by_cases hlt:¬ k<l.length
 ·have c1:((k:Int)<(l.length:Int))=False:=eq_false (by omega)
  have tk:l.take k=l:=List.take_of_length_le (by omega)
  have hg:=c1
  have w1:=c1
  have w2:=c1
  have c2:=c1
  skip
  by_cases hl0:l=[]
  ·subst hl0
   have hG:=d_Grow0
   skip
   (refine Ax hm _ _ _ ?_;simp only [Cb,Ah,Bm,Br,Ce,Eh,Ab,Ci,B0,Bd,A1,Bc,Bf,A0,Ch,E4,A9,B8,Cv,Cg,Bq,Au,Ar,Dm,Cj,Ei,Ag,Ae,A3,Cf,Bv,Bi,Bz,Bx,A4,B6,Bh,Az,A5,Cl,Ad,Ac,Dy,List.map_cons,List.map_nil,List.length_nil,List.append_nil,List.flatMap_cons,List.flatMap_nil,List.take_nil,decide_eq_true_eq,Nat.reduceLT,Nat.reduceEqDiff,true_and,Cc,Bw,↓reduceIte,reduceCtorEq,Int.toNat_natCast,Int.natCast_nonneg,Bool.true_and,Bool.or_false,Lx,tk,z0])
   (repeat' (first | (refine iteI (fun h=>?_) (fun h=>?_))|(refine B1 (by first | omega | (simp (disch:=omega) only [Aa,Ak,Ai] at *;omega)) ?_;intro b hb)|(refine And.intro (by first | omega | (simp (disch:=omega) only [Aa,Ak,Ai] at *;omega)) ?_)|((first | (refine Ba hm (by rfl) (by kernel_rfl) ?_)|(refine Det.use (hG) ?_)|(refine Det.useQ (hG) ?_)|(refine Er.use (hG) ?_)|(refine Dp.use (hG) ?_));simp only [Ah,Bm,Ce,He,Ab,Bd,A1,Bc,Ct,Bf,A0,Ca,A9,Aj,Dw,Ds,D4,Bp,B6,Ad,Ac,List.map_cons,List.map_nil,List.length_nil,Nat.reduceLT,Cc,↓reduceIte,reduceCtorEq,Ps,Fo])|(exact True.intro)|(exfalso;omega)))
   refine SWP.loop (fun i:Nat=>⟨Fp 36 [(6,.p (.sl [])),(25,.p (.sl [])),(26,.p (.int .i64 0)),(27,.p (.int .i64 0))],[]⟩) (fun _=>True) (fun _=>0) 0 (St.le_slots (by simp only [Cd,Ck,Ac,Be,Aq,Nat.reduceEqDiff,reduceIte,Nat.reduceLT,Nat.reduceLeDiff];simp (disch:=omega) [Aq,A8,Cm,Aa] <;> (repeat' apply And.intro) <;> omega) (by simp (disch:=omega) [Dc,Ee,C9,Bj,Aq,A8,Cm,Aa]) (by simp [De])) trivial ?_
   intro i _
   (refine Ax hm _ _ _ ?_;simp only [Ah,Bm,Br,Eh,Cn,Ab,Ci,B0,Bd,A1,Bc,Bf,A9,Aj,B8,Bq,Au,Ar,Dm,Ag,Ae,A3,Bs,Cs,Cr,A6,A7,B9,Av,Ap,Al,B7,B5,Af,Am,Ao,Co,Ay,A2,Ad,Ac,Dy,List.map_cons,List.map_nil,decide_eq_true_eq,Nat.reduceLT,Nat.reduceEqDiff,Int.reduceLT,and_true,Cc,↓reduceIte,L.p.injEq,Bool.and_true,Bool.or_false])
   (repeat' (first | (refine iteI (fun h=>?_) (fun h=>?_))|(refine B1 (by first | omega | (simp (disch:=omega) only [Aa,Ak,Ai] at *;omega)) ?_;intro b hb)|(refine And.intro (by first | omega | (simp (disch:=omega) only [Aa,Ak,Ai] at *;omega)) ?_)|((first | (refine Ba hm (by rfl) (by kernel_rfl) ?_));simp only [Dh])|(exact True.intro)|(exfalso;omega)))
   rw [z1];rfl
  ·have hpos:0<(Ej (unn l)).enc.length:=by
    have:0<l.length:=by cases l <;> simp at hl0 ⊢
    omega
   have hG:=d_Grow (Ej (unn l)).enc.length hpos (by omega)
   (refine Ax hm _ _ _ ?_;simp only [Ah,Bm,Br,Eh,Ab,Ci,B0,Bd,A1,Bc,Bf,A0,Ch,E4,A9,B8,Cg,Bq,Au,Ar,Dm,Ag,Ae,A3,Cf,Bv,Bi,Bz,Bx,A4,B6,Bh,Az,A5,Cl,Ad,Ac,Dy,List.map_cons,List.map_nil,List.append_nil,List.flatMap_cons,List.flatMap_nil,decide_eq_true_eq,Nat.reduceLT,Nat.reduceEqDiff,Cc,Bw,↓reduceIte,reduceCtorEq,Bool.or_false,c1,tk])
   (repeat' (first | (refine iteI (fun h=>?_) (fun h=>?_))|(refine B1 (by first | omega | (simp (disch:=omega) only [Aa,Ak,Ai] at *;omega)) ?_;intro b hb)|(refine And.intro (by first | omega | (simp (disch:=omega) only [Aa,Ak,Ai] at *;omega)) ?_)|((first | (refine Ba hm (by rfl) (by kernel_rfl) ?_)|(refine Det.use (hG) ?_)|(refine Det.useQ (hG) ?_)|(refine Er.use (hG) ?_)|(refine Dp.use (hG) ?_));simp only [Ah,Bm,Ce,He,Ab,Bd,A1,Bc,Ct,Bf,A0,Ca,A9,Aj,Dw,Ds,D4,Iw,Ik,D3,G2,Dz,Hk,H6,Lo,Fm,Hl,Jz,Bu,Hm,Di,B6,D2,Ey,Aw,Ad,Ac,Cq,Bg,Bb,List.map_cons,List.map_nil,List.append_nil,Nat.reduceLT,Cc,↓reduceIte,reduceCtorEq,Ps,Fo])|(exact True.intro)|(exfalso;omega)))
   refine SWP.of_le (Jh [(24,33)] _ (by simp)) ?_
   simp only [Bu,Fn,Di,B6,D2,Ey,Af,C3,Gj,Fl,D8,Dr,Du,Cq,Bg,Bb,↓reduceIte]
   refine SWP.loop (fun k:Nat=>⟨Fp 36 [(6,.own 33 0 (Ej (unn (l.take k))).enc.length),(25,.p (.sl (E3 l))),(26,.p (.int .i64 l.length)),(27,.p (.int .i64 k))],[(33,.row 53 6 (valL (Ej (unn (l.take k))).enc))]⟩) (fun k=>k≤l.length) (fun k=>l.length - k) 0 (by simp only [List.take_zero,z0,z1,Jsy];exact (St.le_slots (by simp only [Cd,Ck,Ac,Be,Aq,Nat.reduceEqDiff,reduceIte,Nat.reduceLT,Nat.reduceLeDiff];simp (disch:=omega) [Aq,A8,Cm,Aa] <;> (repeat' apply And.intro) <;> omega) (by simp (disch:=omega) [Dc,Ee,C9,Bj,Aq,A8,Cm,Aa]) (by simp [De]))) (Nat.zero_le _) ?_
   intro j hj
   by_cases hjt:¬ j<l.length
   ·have d1:((j:Int)<(l.length:Int))=False:=eq_false (by omega)
    have tj:l.take j=l:=List.take_of_length_le (by omega)
    have tv:(valL (Ej (unn l)).enc).take (Ej (unn l)).enc.length=valL (Ej (unn l)).enc:=List.take_of_length_le (by simp)
    have lv:((Ej (unn l)).enc.length≤(Ej (unn l)).enc.length)=True:=eq_true (Nat.le_refl _)
    have hg2:=d1
    have w3:=d1
    skip
    (refine Ax hm _ _ _ ?_;simp only [Ah,Bm,Br,Eh,Cn,Ab,Ci,B0,Bd,A1,Bc,Bf,A9,Aj,B8,Bq,Au,Ar,Dm,Ag,Ae,E6,Fu,En,F4,Bs,Cs,Cr,A6,A7,B9,Av,Ap,Al,B7,B5,Af,Am,Ao,Co,Ay,Aw,Dx,Dk,I9,G9,A2,Ad,Ac,C6,Bg,Bb,Dy,List.map_cons,List.map_nil,List.drop_zero,decide_eq_true_eq,Nat.reduceLT,Nat.reduceEqDiff,Cc,↓reduceIte,Nat.zero_add,Bool.or_false,and_self,Js,d1,tj,tv,lv])
    (repeat' (first | (refine iteI (fun h=>?_) (fun h=>?_))|(refine B1 (by first | omega | (simp (disch:=omega) only [Aa,Ak,Ai] at *;omega)) ?_;intro b hb)|(refine And.intro (by first | omega | (simp (disch:=omega) only [Aa,Ak,Ai] at *;omega)) ?_)|((first | (refine Ba hm (by rfl) (by kernel_rfl) ?_));simp only [Dh])|(exact True.intro)|(exfalso;omega)))
   ·have hjt:=Decidable.not_not.1 hjt
    have d1:((j:Int)<(l.length:Int))=True:=eq_true (by omega)
    obtain ⟨p,hp⟩:∃ p,l[j]? = some p:=⟨_,List.getElem?_eq_getElem hjt⟩
    have hg2:(E3 l)[j]? = some [.sl (valL (p.2.enc []))]:=by simp [E3,hp]
    have hs:=Jo3 l (j+1)
    have h1:=Joo hp
    rw [h1,List.length_append] at hs
    have w3:=wj1 (i:=j) (by omega)
    have tj:=d1
    have tv:=d1
    have lv:=d1
    (refine Ax hm _ _ _ ?_;simp only [Cb,Ah,Bm,Br,Ce,Ab,Bk,Bd,A1,Bc,Ct,Bf,A0,Ca,A9,Aj,B8,Ed,Cv,F8,Bo,Bl,Bq,Au,Bt,Ar,E8,Dm,Eo,Cj,Ei,G8,C5,Dd,Cu,G6,Il,Hc,F5,P9,Me,Gg,Kz,Aw,B4,C4,Ez,G7,Jr,Ga,Ad,Ac,Bn,Bg,Bb,Dy,List.map_cons,List.map_nil,List.length_cons,List.length_nil,List.getElem?_cons_zero,decide_eq_true_eq,Nat.reduceLT,Nat.reduceEqDiff,Nat.reduceAdd,true_and,Cc,↓reduceIte,Int.toNat_natCast,Int.natCast_nonneg,Nat.zero_add,Bool.true_and,Bool.or_false,Bool.or_true,Q1,Ng,Kc,Lx,Sd,Yv,Js,d1,hg2,w3])
    refine ⟨Pk _,by omega,by omega,?_⟩
    (repeat' (first | (refine iteI (fun h=>?_) (fun h=>?_))|(refine B1 (by first | omega | (simp (disch:=omega) only [Aa,Ak,Ai] at *;omega)) ?_;intro b hb)|(refine And.intro (by first | omega | (simp (disch:=omega) only [Aa,Ak,Ai] at *;omega)) ?_)|((first | (refine Ba hm (by rfl) (by kernel_rfl) ?_));simp only [Dh])|(exact True.intro)|(exfalso;omega)))
    refine ⟨j+1,hjt,by omega,?_⟩
    rw [h1,List.length_append,Ux]
    exact (St.le_slots (by simp only [Cd,Ck,Ac,Be,Aq,Nat.reduceEqDiff,reduceIte,Nat.reduceLT,Nat.reduceLeDiff];simp (disch:=omega) [Aq,A8,Cm,Aa] <;> (repeat' apply And.intro) <;> omega) (by simp (disch:=omega) [Dc,Ee,C9,Bj,Aq,A8,Cm,Aa]) (by simp [De]))
 ·have hlt:=Decidable.not_not.1 hlt
  have c1:((k:Int)<(l.length:Int))=True:=eq_true (by omega)
  obtain ⟨p,hp⟩:∃ p,l[k]? = some p:=⟨_,List.getElem?_eq_getElem hlt⟩
  have hg:(E3 l)[k]? = some [.sl (valL (p.2.enc []))]:=by simp [E3,hp]
  have hs:=Jo3 l (k+1)
  have h1:=Joo hp
  rw [h1,List.length_append] at hs
  have tk:=c1
  have w1:=wj1 (i:=k) (by omega)
  have w2:IntKind.i64.wrap (((Ej (unn (l.take k))).enc.length:Int)+((p.2.enc []).length:Int))=(((Ej (unn (l.take k))).enc.length+(p.2.enc []).length:Nat):Int):=by rw [Aa (by omega) (by omega)];omega
  have c2:((((Ej (unn (l.take k))).enc.length+(p.2.enc []).length:Nat):Int)<0)=False:=eq_false (by omega)
  have d1:=c1
  have tj:=c1
  have tv:=c1
  have lv:=c1
  have hg2:=c1
  have w3:=c1
  (refine Ax hm _ _ _ ?_;simp only [Cb,Ah,Bm,Br,Ce,Ab,Bk,Bd,A1,Bc,Bf,A0,Ca,A9,Aj,B8,Ed,Cv,Dw,Bl,Bq,Au,Bt,Ar,E8,Dm,Ds,D4,Eo,Cj,Ei,G8,C5,Dd,Ad,Ac,Dy,List.map_cons,List.map_nil,List.length_cons,List.length_nil,List.getElem?_cons_zero,decide_eq_true_eq,Nat.reduceLT,Nat.reduceEqDiff,true_and,Cc,↓reduceIte,reduceCtorEq,Int.toNat_natCast,Int.natCast_nonneg,Nat.zero_add,Bool.true_and,Bool.or_false,Bool.or_true,Qx,Q1,Ng,Lx,Js,c1,hg,w1,w2,c2])
  (repeat' (first | (refine And.intro (by first | omega | (simp;done)|(simp;omega)) ?_)))
  (repeat' (first | (refine iteI (fun h=>?_) (fun h=>?_))|(refine B1 (by first | omega | (simp (disch:=omega) only [Aa,Ak,Ai] at *;omega)) ?_;intro b hb)|(refine And.intro (by first | omega | (simp (disch:=omega) only [Aa,Ak,Ai] at *;omega)) ?_)|((first | (refine Ba hm (by rfl) (by kernel_rfl) ?_));simp only [Dh])|(exact True.intro)|(exfalso;omega)))
  refine ⟨k+1,hlt,by omega,?_⟩
  rw [h1,List.length_append]
  exact (St.le_slots (by simp only [Cd,Ck,Ac,Be,Aq,Nat.reduceEqDiff,reduceIte,Nat.reduceLT,Nat.reduceLeDiff];simp (disch:=omega) [Aq,A8,Cm,Aa] <;> (repeat' apply And.intro) <;> omega) (by simp (disch:=omega) [Dc,Ee,C9,Bj,Aq,A8,Cm,Aa]) (by simp [De]))
end Go.LX
set_option maxRecDepth 100000
set_option maxHeartbeats 2000000
namespace Go.LX
open Go Go.RowKit Go.Proofs
attribute [local irreducible] B2 SWP Hb
end Go.LX
set_option maxRecDepth 100000
set_option maxHeartbeats 2000000
namespace Go.LX
open Go Go.RowKit Go.Proofs
attribute [local irreducible] B2 SWP Hb
theorem valL_at {v:List Node} {i:Nat} {n:Node} (h:v[i]? = some n):(valL v)[i]? = some [.int .i64 n.kind,.int .i64 n.many,.str n.name,.str n.s,.bool n.neg,.int .i64 n.e]:=by
 simp [valL,h,Node.cells]
end Go.LX
set_option maxRecDepth 100000
set_option maxHeartbeats 2000000
namespace Go.LX
open Go Go.RowKit Go.Proofs
attribute [local irreducible] B2 SWP Hb
theorem Jkn {v:List Node} {i:Nat} {n:Node} (h:v[i]? = some n):(valL v)[i]? = some [.int .i64 n.kind,.int .i64 n.many,.str n.name,.str n.s,.bool n.neg,.int .i64 n.e]:=by
 simp [valL,h,Node.cells]
def Jhw (x y:Node):Prop:=x.kind=y.kind∧x.many=y.many∧x.name=y.name∧x.s=y.s∧x.neg=y.neg∧x.e=y.e
theorem Je8 {x y:Node}:Jhw x y ↔ x=y:=by
 unfold Jhw
 constructor
 ·rintro ⟨h1,h2,h3,h4,h5,h6⟩
  cases x;cases y
  simp_all
 ·rintro rfl;exact ⟨rfl,rfl,rfl,rfl,rfl,rfl⟩
instance (x y:Node):Decidable (Jhw x y):=inferInstanceAs (Decidable (_∧_))
instance:DecidableEq Node:=fun x y=>decidable_of_iff _ (Je8 (x:=x) (y:=y))
theorem nodeB {x y:Node}:(x.kind == y.kind && (x.many == y.many && (x.name == y.name && (x.s == y.s && (x.neg == y.neg && x.e == y.e)))))=decide (x=y):=by
 rw [Bool.eq_iff_iff,decide_eq_true_eq,← Je8];simp [Jhw]
theorem Jrw (v u:List Node) (hv:v.length≤1000000) (hu:u.length≤1000000):Det cx 28 [.p (.sl (valL v)),.p (.sl (valL u))] [] (.p (.bool (decide (v=u)))) []:=by
 by_cases hl:v.length=u.length
 ·have c0:((v.length:Int)=(u.length:Int))=True:=eq_true (by omega)
  skip
  (refine B2.of_code (X:=cx) false [] (by simp) Tryz.func28 (by kernel_rfl) rfl (by simp only [List.length_cons,List.length_nil,Tryz.ntmps28];decide) (by simp) ?_;refine Ax hm _ _ _ ?_;simp only [Tryz.ntmps28,Tryz.results28,Cb,Ah,Bm,Br,Ce,He,Ab,Bd,A1,Bc,Bf,A0,Cw,Ca,A9,Aj,B8,Dw,Bq,Au,Ar,Kx,Ds,D4,Ad,Ac,argW,List.map_cons,List.map_nil,bne_iff_ne,ne_eq,not_true_eq_false,Nat.reduceLT,Nat.reduceEqDiff,Cc,↓reduceIte,reduceCtorEq,Nat.zero_add,Bool.or_false,Qx,Js,c0])
  (repeat' (first | (refine iteI (fun h=>?_) (fun h=>?_))|(refine B1 (by first | omega | (simp (disch:=omega) only [Aa,Ak,Ai] at *;omega)) ?_;intro b hb)|(refine And.intro (by first | omega | (simp (disch:=omega) only [Aa,Ak,Ai] at *;omega)) ?_)|((first | (refine Ba hm (by rfl) (by kernel_rfl) ?_));simp only [Dh])|(exact True.intro)|(exfalso;omega)))
  refine SWP.loop (fun i:Nat=>⟨Fp 26 [(0,.p (.sl (valL v))),(1,.p (.sl (valL u))),(5,.p (.int .i64 i))],[]⟩) (fun i=>i≤v.length∧v.take i=u.take i) (fun i=>v.length - i) 0 (St.le_slots (by simp only [Cd,Ck,Ac,Be,Aq,Nat.reduceEqDiff,reduceIte,Nat.reduceLT,Nat.reduceLeDiff];simp (disch:=omega) [Aq,A8,Cm,Aa] <;> (repeat' apply And.intro) <;> omega) (by simp (disch:=omega) [Dc,Ee,C9,Bj,Aq,A8,Cm,Aa]) (by simp [De])) ⟨Nat.zero_le _,rfl⟩ ?_
  rintro i ⟨h1,h3⟩
  by_cases hi:¬ i<v.length
  ·have c1:((i:Int)<(v.length:Int))=False:=eq_false (by omega)
   have hgx:=c1
   have hgy:=c1
   skip
   (refine Ax hm _ _ _ ?_;simp only [Ah,Bm,Br,Eh,Cn,Ab,Ci,B0,Bd,A1,Bc,Bf,A0,Cw,A9,Aj,B8,Dw,Bq,Au,Ar,Dm,Ds,D4,Ag,Ae,A3,Bs,Cs,Cr,A6,A7,B9,Av,Ap,Al,B7,B5,Af,Am,Ao,Co,Ay,A2,Ad,Ac,Dy,List.map_cons,List.map_nil,decide_eq_true_eq,Nat.reduceLT,Nat.reduceEqDiff,and_true,Cc,↓reduceIte,reduceCtorEq,L.p.injEq,PV.bool.injEq,Bool.and_true,Bool.or_false,Qx,Js,c1])
   (repeat' (first | (refine iteI (fun h=>?_) (fun h=>?_))|(refine B1 (by first | omega | (simp (disch:=omega) only [Aa,Ak,Ai] at *;omega)) ?_;intro b hb)|(refine And.intro (by first | omega | (simp (disch:=omega) only [Aa,Ak,Ai] at *;omega)) ?_)|((first | (refine Ba hm (by rfl) (by kernel_rfl) ?_));simp only [Dh])|(exact True.intro)|(exfalso;omega)))
   rw [List.take_of_length_le (by omega),List.take_of_length_le (by omega)] at h3
   exact (decide_eq_true h3).symm
  ·have hi:=Decidable.not_not.1 hi
   have c1:((i:Int)<(v.length:Int))=True:=eq_true (by omega)
   obtain ⟨x,hx⟩:∃ x,v[i]? = some x:=⟨_,List.getElem?_eq_getElem hi⟩
   obtain ⟨y,hy⟩:∃ y,u[i]? = some y:=⟨_,List.getElem?_eq_getElem (by omega)⟩
   have hgx:=Jkn hx
   have hgy:=Jkn hy
   have w1:=wi1 (i:=i) (by omega)
   skip
   (refine Ax hm _ _ _ ?_;simp only [Cb,Ah,Bm,Br,Ce,Ab,Bd,A1,Bc,Bf,A9,B8,Dw,Ja,Bq,Au,Ar,Dm,Ds,D4,Ad,Ac,List.map_cons,List.map_nil,decide_eq_true_eq,Nat.reduceLT,Nat.reduceEqDiff,Cc,↓reduceIte,reduceCtorEq,Bool.or_false,Qx,Js,c1])
   (repeat' (first | (refine And.intro (by first | omega | (simp;done)|(simp;omega)) ?_)))
   (repeat' (first | (refine iteI (fun h=>?_) (fun h=>?_))|(refine B1 (by first | omega | (simp (disch:=omega) only [Aa,Ak,Ai] at *;omega)) ?_;intro b hb)|(refine And.intro (by first | omega | (simp (disch:=omega) only [Aa,Ak,Ai] at *;omega)) ?_)|((first | (refine Ba hm (by rfl) (by kernel_rfl) ?_));simp only [Cb,Ah,Bm,Br,Cn,Ab,B3,Bk,Ea,Bd,A1,Mv,Kf,Bc,Bf,A0,Cw,Ca,A9,Aj,B8,Jn,M7,Mq,I4,Bo,Bl,Bq,Au,Jb1,V6,Bt,Ar,Jpi,Wd,Q2,P4,Q9,Q6,E8,Eo,Cj,Ei,C5,I6,Ag,Ae,A3,Bs,Cs,Cr,A6,A7,B9,Av,Ap,Al,B7,B5,Af,Am,Ao,Co,Ay,A2,Ad,Ac,Dy,List.map_cons,List.map_nil,List.length_cons,List.length_nil,List.take_succ_cons,List.take_nil,decide_eq_false_iff_not,Bool.not_eq_eq_eq_not,Nat.reduceLT,Nat.reduceLeDiff,Nat.reduceEqDiff,Nat.reduceAdd,true_and,and_true,Cc,↓reduceIte,reduceCtorEq,Int.toNat_natCast,Int.natCast_nonneg,Nat.zero_add,Bool.not_true,L.p.injEq,PV.bool.injEq,Bool.true_and,Bool.and_true,Bool.or_false,Bool.or_true,Kc,Jpu,Jg0,f_t53,nodeB,hgx,hgy,w1])|(exact True.intro)|(exfalso;omega)))
   ·have hxy:=(show ¬ x=y by assumption)
    refine (decide_eq_false fun e=>hxy ?_).symm
    subst e;rw [hx] at hy;exact Option.some.inj hy
   ·have hxy:=Decidable.not_not.1 (show ¬ ¬ x=y by assumption)
    subst hxy
    refine ⟨i+1,⟨by omega,?_⟩,by omega,(St.le_slots (by simp only [Cd,Ck,Ac,Be,Aq,Nat.reduceEqDiff,reduceIte,Nat.reduceLT,Nat.reduceLeDiff];simp (disch:=omega) [Aq,A8,Cm,Aa] <;> (repeat' apply And.intro) <;> omega) (by simp (disch:=omega) [Dc,Ee,C9,Bj,Aq,A8,Cm,Aa]) (by simp [De]))⟩
    rw [List.take_add_one,List.take_add_one,h3,hx,hy]
 ·have c0:((v.length:Int)=(u.length:Int))=False:=eq_false (by omega)
  have c1:=c0
  have hgx:=c0
  have hgy:=c0
  have w1:=c0
  (refine B2.of_code (X:=cx) false [] (by simp) Tryz.func28 (by kernel_rfl) rfl (by simp only [List.length_cons,List.length_nil,Tryz.ntmps28];decide) (by simp) ?_;refine Ax hm _ _ _ ?_;simp only [Tryz.ntmps28,Tryz.results28,Ah,Bm,Br,Cn,Ab,B3,Bd,A1,Bc,Bf,A0,Cw,A9,Aj,B8,Dw,Bq,Au,Ar,Kx,Ds,D4,Ag,Ae,A3,Bs,Cs,Cr,A6,A7,B9,Av,Ap,Al,B7,B5,Af,Am,Ao,Co,Ay,A2,Ad,Ac,argW,List.map_cons,List.map_nil,bne_iff_ne,ne_eq,not_false_eq_true,Nat.reduceLT,Nat.reduceEqDiff,and_true,Cc,↓reduceIte,reduceCtorEq,Nat.zero_add,L.p.injEq,PV.bool.injEq,Bool.and_true,Bool.or_false,Qx,Js,c0])
  (repeat' (first | (refine iteI (fun h=>?_) (fun h=>?_))|(refine B1 (by first | omega | (simp (disch:=omega) only [Aa,Ak,Ai] at *;omega)) ?_;intro b hb)|(refine And.intro (by first | omega | (simp (disch:=omega) only [Aa,Ak,Ai] at *;omega)) ?_)|((first | (refine Ba hm (by rfl) (by kernel_rfl) ?_));simp only [Dh])|(exact True.intro)|(exfalso;omega)))
  exact (decide_eq_false fun e=>hl (by rw [e])).symm
end Go.LX
set_option maxRecDepth 100000
set_option maxHeartbeats 2000000
namespace Go.LX
open Go Go.RowKit Go.Proofs
attribute [local irreducible] B2 SWP Hb
end Go.LX
