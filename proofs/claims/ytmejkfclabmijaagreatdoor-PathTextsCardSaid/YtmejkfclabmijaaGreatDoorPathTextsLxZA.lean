/- Paths: as the document reads them. -/
import Derived.Test.YtmejkfclabmijaaGreatDoorPathTextsLxZ
set_option linter.unusedSimpArgs false
set_option linter.unusedVariables false
set_option linter.unusedSectionVars false
set_option linter.unnecessarySimpa false
set_option maxRecDepth 100000
set_option maxHeartbeats 2000000
namespace Go.LX
open Go Go.RowKit Go.Proofs
attribute [local irreducible] B2 SWP Hb
theorem Jno {s:List UInt8} {i:Nat}:N5 s i (decide (i=0))=I8 s i:=by
 unfold N5 I8
 by_cases hf:(Gz (s.drop i)).2≠0
 ·rw [if_pos hf,if_pos hf]
 ·rw [if_neg hf,if_neg hf,Jp7,Jp7]
  by_cases hi:i=0
  ·rw [if_pos (decide_eq_true hi),if_pos hi]
   subst hi
   have hd:=X5 (s:=s) (i:=0)
   rw [List.drop_zero] at hd
   by_cases h1:s.take 1=[46]
   ·by_cases h2:(Iv (s.drop (0+1))).2≠0
    ·rw [if_pos ⟨hd.1 h1,h2⟩,if_pos ⟨h1,h2⟩]
    ·rw [if_neg (fun h=>h2 h.2),if_neg (fun h=>h2 h.2)]
   ·rw [if_neg (fun h=>h1 (hd.2 h.1)),if_neg (fun h=>h1 h.1)]
  ·rw [if_neg (fun h=>hi (of_decide_eq_true h)),if_neg hi]
   by_cases hdt:i<s.length∧at_ s i=46
   ·rw [if_pos hdt]
    refine (Xf ?_).symm
    unfold Iv
    rw [if_neg]
    rintro ⟨h,-⟩
    rw [X5.2 hdt] at h
    cases h
   ·rw [if_neg hdt]
theorem Jqc {s:List UInt8} {i:Nat} (h:s.length≤i):(I8 s i).2=0:=by
 have hd:s.drop i=[]:=List.drop_eq_nil_of_le h
 unfold I8
 have hf:Gz []=(J6,0):=rfl
 have hp:Iv []=(J6,0):=rfl
 rw [hd,hf,if_neg (fun h=>h rfl),hp]
 split
 ·have:s=[]:=List.eq_nil_of_length_eq_zero (by omega)
  subst this
  rfl
 ·rfl
def begS (s:List UInt8):List Step×Nat:=if (N9 s).1.length=0∧s.take 1=[46] then ((N9 s).1,1) else N9 s
theorem Jki (s:List UInt8) (hs:s.length≤1000000):Det cx 50 [.p (.str s),.p (.int .i64 0)] [] (.tup [.sl (Gm (begS s).1),.int .i64 (begS s).2]) []:=by
 (refine B2.of_code (X:=cx) false [] (by simp) Tryz.func50 (by kernel_rfl) rfl (by simp only [List.length_cons,List.length_nil,Tryz.ntmps50];decide) (by simp) ?_;refine Ax hm _ _ _ ?_;simp only [Tryz.ntmps50,Tryz.results50,Ah,Bm,Ce,He,Ab,Bd,A1,Bc,Ct,Bf,A0,Ca,E4,A9,Aj,Df,Bo,Cu,Ag,Ht,Ji,Il,Dg,Jg,Gp,Hu,B4,Ez,Ad,Ac,Bn,Bg,Bb,argW,List.map_cons,List.map_nil,List.length_cons,List.length_nil,Nat.reduceLT,Nat.reduceLeDiff,Nat.reduceEqDiff,Nat.reduceAdd,Nat.reduceMul,true_and,Cc,↓reduceIte,reduceCtorEq,Nat.zero_add,Bool.true_and,J8,Jy])
 (repeat' (first | (refine iteI (fun h=>?_) (fun h=>?_))|(refine B1 (by first | omega | (simp (disch:=omega) only [Aa,Ak,Ai] at *;omega)) ?_;intro b hb)|(refine And.intro (by first | omega | (simp (disch:=omega) only [Aa,Ak,Ai] at *;omega)) ?_)|((first | (refine Ba hm (by rfl) (by kernel_rfl) ?_));simp only [Dh])|(exact True.intro)|(exfalso;omega)))
 refine SWP.of_le (Jh [(10,30)] _ (by simp)) ?_
 simp only [Bu,Fn,Di,B6,D2,Ey,Af,C3,Gj,Fl,D8,Dr,Du,Cq,Bg,Bb,↓reduceIte]
 refine SWP.loop (fun x:Nat×Nat×List Step=>⟨Fp 52 [(0,.p (.str s)),(1,.p (.int .i64 x.1)),(6,.own 30 0 x.2.2.length),(7,.p (.int .i64 0))],[(30,.row 47 3 (Gm x.2.2))]⟩) (fun x=>x.1≤s.length∧s.length+1≤x.1+x.2.1∧x.2.2.length≤20∧(x.2.2.length=0 ↔ x.1=0)∧Kd s x.2.1 x.1 x.2.2=N9 s) (fun x=>s.length - x.1) (0,s.length+1,[]) (by rw [show Gm []=[] from rfl];exact (St.le_slots (by simp only [Cd,Ck,Ac,Be,Aq,Nat.reduceEqDiff,reduceIte,Nat.reduceLT,Nat.reduceLeDiff];simp (disch:=omega) [Aq,A8,Cm,Aa] <;> (repeat' apply And.intro) <;> omega) (by simp (disch:=omega) [Dc,Ee,C9,Bj,Aq,A8,Cm,Aa]) (by simp [De]))) ⟨Nat.zero_le _,by simp,by simp,by simp,rfl⟩ ?_
 rintro ⟨i,f,p⟩ ⟨h1,h2,h3,h5,h4⟩
 simp only at h1 h2 h3 h4 h5
 have hstep:=d_step s i (decide (i=0)) hs h1
 rw [Jno] at hstep
 have hnl:=Yz h1
 have hfd:((p.length:Int) == 0)=decide (i=0):=by
  rw [Bool.eq_iff_iff,beq_iff_eq,decide_eq_true_eq];omega
 have htk:(Gm p).take p.length=Gm p:=List.take_of_length_le (by simp)
 have hbeg:Kd s f i p=(p,i)→begS s=if p.length=0∧s.take 1=[46] then (p,1) else (p,i):=fun h=>by
  rw [h] at h4
  unfold begS;rw [← h4]
 have hdot:=X5 (s:=s) (i:=0)
 rw [List.drop_zero] at hdot
 by_cases hc:p.length<20
 ·by_cases hn:(I8 s i).2=0
  ·have hst:Kd s f i p=(p,i):=Ow fun h=>h.2.2 hn
   have hb:=hbeg hst
   have hw:=hn
   have hel:=hfd
   skip
   (refine Ax hm _ _ _ ?_;simp only [Cb,Ah,Bm,Br,Ce,Eh,Cn,Ab,Ci,B3,B0,Bd,A1,Da,Bc,D9,Bf,A0,Ch,Cw,Ca,A9,Aj,B8,D0,I7,Dw,Cg,Bq,C2,Dq,Db,Dn,Au,Bt,Ar,E8,G0,Dm,Ds,Dl,F3,Ib,Hf,Ag,Ae,A3,E6,Fu,En,F4,Cf,Bv,Bi,Bz,Bx,A4,B6,Bh,Az,A5,Bs,Cs,Cr,A6,A7,B9,Av,Ap,Al,B7,B5,Af,Am,Ao,Cy,Ay,Aw,Dx,Dk,I9,Jx,G9,Cl,A2,Ad,Ac,C6,Bg,Bb,Dy,List.map_cons,List.map_nil,List.getD_cons_zero,List.getD_cons_succ,List.append_nil,List.flatMap_cons,List.flatMap_nil,List.drop_zero,decide_eq_true_eq,beq_iff_eq,Nat.reduceLT,Nat.reduceEqDiff,Int.reduceToNat,Int.reduceLE,Int.reduceAdd,true_and,and_true,Cc,Bw,↓reduceIte,reduceCtorEq,Nat.zero_add,PV.int.injEq,L.tup.injEq,List.cons.injEq,Bool.false_eq_true,Bool.true_and,Bool.and_true,Bool.or_false,Bool.or_true,Hi,Ir,Dt,htk,Nat.le_refl,hel])
   (repeat' (first | (refine iteI (fun h=>?_) (fun h=>?_))|(refine B1 (by first | omega | (simp (disch:=omega) only [Aa,Ak,Ai] at *;omega)) ?_;intro b hb)|(refine And.intro (by first | omega | (simp (disch:=omega) only [Aa,Ak,Ai] at *;omega)) ?_)|((first | (refine Ba hm (by rfl) (by kernel_rfl) ?_)|(refine Det.use (hstep) ?_)|(refine Det.useQ (hstep) ?_)|(refine Er.use (hstep) ?_)|(refine Dp.use (hstep) ?_));simp only [Cb,Ah,Bm,Br,Eh,Cn,Ab,Ci,B3,Bk,B0,Bd,A1,Da,Bc,D9,C1,Ct,Bf,A0,Cw,Ca,A9,Aj,B8,D0,Ed,Fk,I7,Ek,Dw,Hv,Df,F8,Bo,Bl,Bq,C2,Dq,Db,Dn,Au,Bt,Ar,E8,G0,Dm,Ds,Dl,F3,G8,Ib,Hf,Jb,C5,F7,G1,Eb,Gy,Hw,Cu,G6,E5,Iz,Fj,Ii,Ef,Ag,Ae,A3,E6,Fu,En,F4,Bp,Et,Ht,Ji,Il,Dg,Jg,Gp,Gr,Gs,Gu,Hu,Ho,Hc,F5,G5,E1,Gg,Kz,F2,Jk,Bs,Cs,Cr,A6,A7,B9,Av,Ap,Al,B7,B5,Af,Am,Ao,Cy,Ay,Aw,B4,C4,Cp,Dx,Dk,Hy,Fy,Kn,Ez,G7,Ks,H8,Ga,I9,Jx,Kh,G9,C7,El,Cz,F1,A2,Ad,Ac,Bn,C6,Bg,Bb,Dy,List.map_cons,List.map_nil,List.getD_cons_zero,List.getD_cons_succ,List.length_cons,List.length_nil,List.nil_append,List.append_nil,List.take_succ_cons,List.take_zero,List.take_nil,List.drop_succ_cons,List.drop_zero,List.drop_nil,List.getElem?_cons_zero,List.getElem?_cons_succ,decide_eq_true_eq,beq_iff_eq,ne_eq,not_false_eq_true,Nat.reduceLT,Nat.reduceLeDiff,Nat.reduceEqDiff,Nat.reduceAdd,Nat.reduceMul,Int.reduceToNat,Int.reduceLE,Int.reduceAdd,true_and,and_true,Cc,↓reduceIte,reduceCtorEq,Nat.zero_add,PV.int.injEq,L.tup.injEq,List.cons.injEq,Bool.false_eq_true,Bool.true_and,Bool.and_true,Bool.or_false,Bool.or_true,beq_self_eq_true,Hi,Ir,J8,J0,Jm,Jy,Wq,Dt,htk,Nat.le_refl,Step.cells,hel,hw])|(exact True.intro)|(exfalso;omega)))
   ·rw [hb,if_pos ⟨by omega,hdot.2 ⟨by omega,by omega⟩⟩];exact ⟨rfl,rfl⟩
   ·rw [hb,if_neg (fun h=>by have:=(hdot.1 h.2).2;omega)];exact ⟨rfl,rfl⟩
   ·rw [hb,if_neg (fun h=>by have:=(hdot.1 h.2).1;omega)];exact ⟨rfl,rfl⟩
   ·rw [hb,if_neg (fun h=>by omega)];exact ⟨rfl,rfl⟩
  ·obtain ⟨g,rfl⟩:∃ g,f=g+1:=⟨f - 1,by omega⟩
   have hil:i<s.length:=Decidable.byContradiction fun h=>hn (Jqc (by omega))
   rw [Kd,if_pos ⟨hil,hc,hn⟩] at h4
   have hel:Gm p ++ [[.bool (I8 s i).1.part,.str (I8 s i).1.name,.int .i64 (I8 s i).1.n]]=Gm (p ++ [(I8 s i).1]):=by rw [Wk];rfl
   have hw:=hfd
   (refine Ax hm _ _ _ ?_;simp only [Cb,Ah,Bm,Br,Ce,Eh,Cn,Ab,Ci,B3,B0,Bd,A1,Da,Bc,D9,Bf,A0,Ch,Cw,Ca,A9,Aj,B8,D0,I7,Dw,Cg,Bq,C2,Dq,Db,Dn,Au,Bt,Ar,E8,G0,Dm,Ds,Dl,F3,Ib,Hf,Ag,Ae,A3,E6,Fu,En,F4,Cf,Bv,Bi,Bz,Bx,A4,B6,Bh,Az,A5,Bs,Cs,Cr,A6,A7,B9,Av,Ap,Al,B7,B5,Af,Am,Ao,Cy,Ay,Aw,Dx,Dk,I9,Jx,G9,Cl,A2,Ad,Ac,C6,Bg,Bb,Dy,List.map_cons,List.map_nil,List.getD_cons_zero,List.getD_cons_succ,List.append_nil,List.flatMap_cons,List.flatMap_nil,List.drop_zero,decide_eq_true_eq,beq_iff_eq,Nat.reduceLT,Nat.reduceEqDiff,Int.reduceToNat,Int.reduceLE,Int.reduceAdd,true_and,and_true,Cc,Bw,↓reduceIte,reduceCtorEq,Nat.zero_add,PV.int.injEq,L.tup.injEq,List.cons.injEq,Bool.false_eq_true,Bool.true_and,Bool.and_true,Bool.or_false,Bool.or_true,Hi,Ir,Dt,htk,Nat.le_refl,hfd])
   (repeat' (first | (refine iteI (fun h=>?_) (fun h=>?_))|(refine B1 (by first | omega | (simp (disch:=omega) only [Aa,Ak,Ai] at *;omega)) ?_;intro b hb)|(refine And.intro (by first | omega | (simp (disch:=omega) only [Aa,Ak,Ai] at *;omega)) ?_)|((first | (refine Ba hm (by rfl) (by kernel_rfl) ?_)|(refine Det.use (hstep) ?_)|(refine Det.useQ (hstep) ?_)|(refine Er.use (hstep) ?_)|(refine Dp.use (hstep) ?_));simp only [Cb,Ah,Bm,Br,Eh,Cn,Ab,Ci,B3,Bk,B0,Bd,A1,Da,Bc,D9,C1,Ct,Bf,A0,Cw,Ca,A9,Aj,B8,D0,Ed,Fk,I7,Ek,Dw,Hv,Df,F8,Bo,Bl,Bq,C2,Dq,Db,Dn,Au,Bt,Ar,E8,G0,Dm,Ds,Dl,F3,G8,Ib,Hf,Jb,C5,F7,G1,Eb,Gy,Hw,Cu,G6,E5,Iz,Fj,Ii,Ef,Ag,Ae,A3,E6,Fu,En,F4,Bp,Et,Ht,Ji,Il,Dg,Jg,Gp,Gr,Gs,Gu,Hu,Ho,Hc,F5,G5,E1,Gg,Kz,F2,Jk,Bs,Cs,Cr,A6,A7,B9,Av,Ap,Al,B7,B5,Af,Am,Ao,Cy,Ay,Aw,B4,C4,Cp,Dx,Dk,Hy,Fy,Kn,Ez,G7,Ks,H8,Ga,I9,Jx,Kh,G9,C7,El,Cz,F1,A2,Ad,Ac,Bn,C6,Bg,Bb,Dy,List.map_cons,List.map_nil,List.getD_cons_zero,List.getD_cons_succ,List.length_cons,List.length_nil,List.nil_append,List.append_nil,List.take_succ_cons,List.take_zero,List.take_nil,List.drop_succ_cons,List.drop_zero,List.drop_nil,List.getElem?_cons_zero,List.getElem?_cons_succ,decide_eq_true_eq,beq_iff_eq,ne_eq,not_false_eq_true,Nat.reduceLT,Nat.reduceLeDiff,Nat.reduceEqDiff,Nat.reduceAdd,Nat.reduceMul,Int.reduceToNat,Int.reduceLE,Int.reduceAdd,true_and,and_true,Cc,↓reduceIte,reduceCtorEq,Nat.zero_add,PV.int.injEq,L.tup.injEq,List.cons.injEq,Bool.false_eq_true,Bool.true_and,Bool.and_true,Bool.or_false,Bool.or_true,beq_self_eq_true,Hi,Ir,J8,J0,Jm,Jy,Wq,Dt,htk,Nat.le_refl,Step.cells,hel,hfd])|(exact True.intro)|(exfalso;omega)))
   refine ⟨by simp,by omega,by omega,(i+(I8 s i).2,g,p ++ [(I8 s i).1]),⟨?_,?_,?_,?_,h4⟩,?_,?_⟩
   ·simp only;omega
   ·simp only;omega
   ·simp only [List.length_append,List.length_singleton];omega
   ·simp only [List.length_append,List.length_singleton]
    constructor
    ·intro h;omega
    ·intro h;omega
   ·simp only;omega
   simp only [List.length_append,List.length_singleton]
   exact (St.le_slots (by simp only [Cd,Ck,Ac,Be,Aq,Nat.reduceEqDiff,reduceIte,Nat.reduceLT,Nat.reduceLeDiff];simp (disch:=omega) [Aq,A8,Cm,Aa] <;> (repeat' apply And.intro) <;> omega) (by simp (disch:=omega) [Dc,Ee,C9,Bj,Aq,A8,Cm,Aa]) (by simp [De]))
 ·have hst:Kd s f i p=(p,i):=Ow fun h=>hc h.2.1
  have hb:=hbeg hst
  have hw:=hfd
  have hel:=hfd
  (refine Ax hm _ _ _ ?_;simp only [Cb,Ah,Bm,Br,Ce,Eh,Cn,Ab,Ci,B3,B0,Bd,A1,Da,Bc,D9,Bf,A0,Ch,Cw,Ca,A9,Aj,B8,D0,I7,Dw,Cg,Bq,C2,Dq,Db,Dn,Au,Bt,Ar,E8,G0,Dm,Ds,Dl,F3,Ib,Hf,Ag,Ae,A3,E6,Fu,En,F4,Cf,Bv,Bi,Bz,Bx,A4,B6,Bh,Az,A5,Bs,Cs,Cr,A6,A7,B9,Av,Ap,Al,B7,B5,Af,Am,Ao,Cy,Ay,Aw,Dx,Dk,I9,Jx,G9,Cl,A2,Ad,Ac,C6,Bg,Bb,Dy,List.map_cons,List.map_nil,List.getD_cons_zero,List.getD_cons_succ,List.append_nil,List.flatMap_cons,List.flatMap_nil,List.drop_zero,decide_eq_true_eq,beq_iff_eq,Nat.reduceLT,Nat.reduceEqDiff,Int.reduceToNat,Int.reduceLE,Int.reduceAdd,true_and,and_true,Cc,Bw,↓reduceIte,reduceCtorEq,Nat.zero_add,PV.int.injEq,L.tup.injEq,List.cons.injEq,Bool.false_eq_true,Bool.true_and,Bool.and_true,Bool.or_false,Bool.or_true,Hi,Ir,Dt,htk,Nat.le_refl,hel])
  (repeat' (first | (refine iteI (fun h=>?_) (fun h=>?_))|(refine B1 (by first | omega | (simp (disch:=omega) only [Aa,Ak,Ai] at *;omega)) ?_;intro b hb)|(refine And.intro (by first | omega | (simp (disch:=omega) only [Aa,Ak,Ai] at *;omega)) ?_)|((first | (refine Ba hm (by rfl) (by kernel_rfl) ?_)|(refine Det.use (hstep) ?_)|(refine Det.useQ (hstep) ?_)|(refine Er.use (hstep) ?_)|(refine Dp.use (hstep) ?_));simp only [Cb,Ah,Bm,Br,Eh,Cn,Ab,Ci,B3,Bk,B0,Bd,A1,Da,Bc,D9,C1,Ct,Bf,A0,Cw,Ca,A9,Aj,B8,D0,Ed,Fk,I7,Ek,Dw,Hv,Df,F8,Bo,Bl,Bq,C2,Dq,Db,Dn,Au,Bt,Ar,E8,G0,Dm,Ds,Dl,F3,G8,Ib,Hf,Jb,C5,F7,G1,Eb,Gy,Hw,Cu,G6,E5,Iz,Fj,Ii,Ef,Ag,Ae,A3,E6,Fu,En,F4,Bp,Et,Ht,Ji,Il,Dg,Jg,Gp,Gr,Gs,Gu,Hu,Ho,Hc,F5,G5,E1,Gg,Kz,F2,Jk,Bs,Cs,Cr,A6,A7,B9,Av,Ap,Al,B7,B5,Af,Am,Ao,Cy,Ay,Aw,B4,C4,Cp,Dx,Dk,Hy,Fy,Kn,Ez,G7,Ks,H8,Ga,I9,Jx,Kh,G9,C7,El,Cz,F1,A2,Ad,Ac,Bn,C6,Bg,Bb,Dy,List.map_cons,List.map_nil,List.getD_cons_zero,List.getD_cons_succ,List.length_cons,List.length_nil,List.nil_append,List.append_nil,List.take_succ_cons,List.take_zero,List.take_nil,List.drop_succ_cons,List.drop_zero,List.drop_nil,List.getElem?_cons_zero,List.getElem?_cons_succ,decide_eq_true_eq,beq_iff_eq,ne_eq,not_false_eq_true,Nat.reduceLT,Nat.reduceLeDiff,Nat.reduceEqDiff,Nat.reduceAdd,Nat.reduceMul,Int.reduceToNat,Int.reduceLE,Int.reduceAdd,true_and,and_true,Cc,↓reduceIte,reduceCtorEq,Nat.zero_add,PV.int.injEq,L.tup.injEq,List.cons.injEq,Bool.false_eq_true,Bool.true_and,Bool.and_true,Bool.or_false,Bool.or_true,beq_self_eq_true,Hi,Ir,J8,J0,Jm,Jy,Wq,Dt,htk,Nat.le_refl,Step.cells,hel])|(exact True.intro)|(exfalso;omega)))
  rw [hb,if_neg (by omega)];exact ⟨rfl,rfl⟩
theorem begS_dot:begS [46]=([],1):=by
 have e:N9 [46]=([],0):=rfl
 unfold begS;rw [e];rfl
theorem Jgv {s:List UInt8}:∀ (f i:Nat) (p:List Step),i≤(Kd s f i p).2∧p.length≤(Kd s f i p).1.length∧((Kd s f i p).1.length=p.length→Kd s f i p=(p,i))
 | 0,i,p=>⟨Nat.le_refl _,Nat.le_refl _,fun _=>rfl⟩
 | f+1,i,p=>by
  rw [Kd]
  split
  ·have:=Jgv (s:=s) f (i+(I8 s i).2) (p ++ [(I8 s i).1])
   rw [List.length_append,List.length_singleton] at this
   exact ⟨by omega,by omega,fun h=>by omega⟩
  ·exact ⟨Nat.le_refl _,Nat.le_refl _,fun _=>rfl⟩
theorem Jqf (s:List UInt8) (hs:s.length≤1000000):Det cx 17 [.p (.str s)] [] (.tup [.sl (Gm (Kp s).1),.int .i64 (Kp s).2.1,.int .i64 (Kp s).2.2]) []:=by
 refine Det.weak ?_
 by_cases hd:s=[46]
 ·subst hd
  have hB:=Jki [46] (by decide)
  rw [begS_dot] at hB
  (refine B2.of_code (X:=cx) false [] (by simp) Tryz.func17 (by kernel_rfl) rfl (by simp only [List.length_cons,List.length_nil,Tryz.ntmps17];decide) (by simp) ?_;refine Ax hm _ _ _ ?_;simp only [Tryz.ntmps17,Tryz.results17,Ah,Bm,Ab,Bd,A1,Bc,Bf,A0,Ch,Ca,E4,A9,Aj,Cg,Ag,Ae,A3,Cf,Bv,Bi,Bz,Bx,A4,B6,Bh,Az,A5,Cl,Ad,Ac,argW,List.map_cons,List.map_nil,List.append_nil,List.flatMap_cons,List.flatMap_nil,Nat.reduceLT,Nat.reduceEqDiff,Cc,Bw,↓reduceIte,reduceCtorEq])
  (repeat' (first | (refine iteI (fun h=>?_) (fun h=>?_))|(refine B1 (by first | omega | (simp (disch:=omega) only [Aa,Ak,Ai] at *;omega)) ?_;intro b hb)|(refine And.intro (by first | omega | (simp (disch:=omega) only [Aa,Ak,Ai] at *;omega)) ?_)|((first | (refine Ba hm (by rfl) (by kernel_rfl) ?_)|(refine Det.use (hB) ?_)|(refine Det.useQ (hB) ?_)|(refine Er.use (hB) ?_)|(refine Dp.use (hB) ?_));simp only [Ah,Bm,Br,Cn,Ab,B3,Bd,A1,Bc,Ct,Bf,A0,Ca,F6,A9,Aj,B8,Ek,Bl,Bq,Ep,Bt,Ar,Nh,G8,Eb,Ag,Ae,A3,Bp,Et,Bs,Cs,Cr,A6,A7,B9,Av,Ap,Al,B7,B5,Af,Am,Ao,Cy,Ay,A2,Ad,Ac,List.map_cons,List.map_nil,List.getElem?_cons_zero,List.getElem?_cons_succ,Nat.reduceLT,Nat.reduceEqDiff,and_true,Cc,↓reduceIte,reduceCtorEq,Bool.and_true,Bool.or_true,beq_self_eq_true])|(exact True.intro)|(exfalso;omega)))
  exact .inl rfl
 ·have hd':(s=[46])=False:=eq_false hd
  have hB:=Jki s hs
  have hnil:=(Jgv (s:=s) (s.length+1) 0 []).2.2
  have hR0:(N9 s).1.length=0→N9 s=([],0):=hnil
  have hb0:(begS s).1.length=0→(N9 s).1.length=0:=fun h=>by
   unfold begS at h
   split at h
   ·exact h
   ·exact h
  have hb1:¬ (begS s).1.length=0→begS s=N9 s:=fun h=>by
   unfold begS at h ⊢
   split
   ·rename_i hc;rw [if_pos hc] at h;exact absurd hc.1 h
   ·rfl
  skip
  (refine B2.of_code (X:=cx) false [] (by simp) Tryz.func17 (by kernel_rfl) rfl (by simp only [List.length_cons,List.length_nil,Tryz.ntmps17];decide) (by simp) ?_;refine Ax hm _ _ _ ?_;simp only [Tryz.ntmps17,Tryz.results17,Ah,Bm,Ab,Bd,A1,Bc,Bf,A0,Ch,Ca,E4,A9,Aj,Cg,Ag,Ae,A3,Cf,Bv,Bi,Bz,Bx,A4,B6,Bh,Az,A5,Cl,Ad,Ac,argW,List.map_cons,List.map_nil,List.append_nil,List.flatMap_cons,List.flatMap_nil,Nat.reduceLT,Nat.reduceEqDiff,Cc,Bw,↓reduceIte,reduceCtorEq])
  (repeat' (first | (refine iteI (fun h=>?_) (fun h=>?_))|(refine B1 (by first | omega | (simp (disch:=omega) only [Aa,Ak,Ai] at *;omega)) ?_;intro b hb)|(refine And.intro (by first | omega | (simp (disch:=omega) only [Aa,Ak,Ai] at *;omega)) ?_)|((first | (refine Ba hm (by rfl) (by kernel_rfl) ?_)|(refine Det.use (hB) ?_)|(refine Det.useQ (hB) ?_)|(refine Er.use (hB) ?_)|(refine Dp.use (hB) ?_));simp only [Cb,Ah,Bm,Br,Cn,Ab,B3,Bd,A1,Bc,Ct,Bf,A0,Ca,F6,E4,A9,Aj,B8,Ek,Dw,Bl,Bq,Au,Ep,Bt,Ar,G0,Dm,Nh,Ds,Dl,D4,G8,Eb,Ag,Ae,A3,Bp,Et,Bs,Cs,Cr,A6,A7,B9,Av,Ap,Al,B7,B5,Af,Am,Ao,Cy,Ay,A2,Ad,Ac,List.map_cons,List.map_nil,List.getElem?_cons_zero,List.getElem?_cons_succ,decide_eq_true_eq,beq_iff_eq,Nat.reduceLT,Nat.reduceEqDiff,and_true,Cc,↓reduceIte,reduceCtorEq,Bool.and_true,Bool.or_false,Bool.or_true,Hi,Ir,hd',Dt])|(exact True.intro)|(exfalso;omega)))
  ·have h0:=hR0 (hb0 (by omega))
   have e:Kp s=([],0,1):=by
    unfold Kp;rw [if_neg hd,h0];rw [if_pos (.inr rfl)]
   rw [e];exact OLe.of_tup ⟨.nil,.refl _,.refl _,trivial⟩
  ·have hb:=hb1 (by omega)
   have hq:(begS s).2<s.length:=by omega
   rw [hb] at hq ⊢
   have e:Kp s=([],(N9 s).2,1):=by
    unfold Kp;rw [if_neg hd,if_pos (.inl (by omega))]
   rw [e];exact OLe.of_tup ⟨.nil,.refl _,.refl _,trivial⟩
  ·have hb:=hb1 (by omega)
   have hq:¬ (begS s).2<s.length:=by omega
   have hq2:¬ (begS s).1.length=0:=by omega
   rw [hb] at hq hq2 ⊢
   have e:Kp s=((N9 s).1,0,0):=by
    unfold Kp;rw [if_neg hd,if_neg (by omega)]
   rw [e];exact .inl rfl
end Go.LX
set_option maxRecDepth 100000
set_option maxHeartbeats 2000000
namespace Go.LX
open Go Go.RowKit Go.Proofs
attribute [local irreducible] B2 SWP Hb
def Ru (x y:Step):Prop:=x.part=y.part∧x.name=y.name∧x.n=y.n
instance (x y:Step):Decidable (Ru x y):=inferInstanceAs (Decidable (_∧_))
theorem Nr {x y:Step}:Ru x y ↔ x=y:=by
 unfold Ru
 constructor
 ·rintro ⟨h1,h2,h3⟩
  cases x;cases y
  simp_all
 ·rintro rfl;exact ⟨rfl,rfl,rfl⟩
theorem Jb4 {x y:Step}:(x.part == y.part && (x.name == y.name && x.n == y.n))=decide (Ru x y):=by
 rw [Bool.eq_iff_iff,decide_eq_true_eq];simp [Ru]
def M0:List Step→List Step→Bool
 | x :: p,y :: q=>!decide (Ru x y) || M0 p q
 | _,_=>false
theorem Jm5 (p:List Step):M0 p []=false:=by cases p <;> rfl
theorem Jfb (p q:List Step) (hp:p.length≤1000000) (hq:q.length≤1000000) (hn:∀ x∈p,x.name.length≤1000000) (hnq:∀ x∈q,x.name.length≤1000000):Det cx 30 [.p (.sl (Gm p)),.p (.sl (Gm q))] [] (.p (.bool (M0 p q))) []:=by
 skip
 (refine B2.of_code (X:=cx) false [] (by simp) Tryz.func30 (by kernel_rfl) rfl (by simp only [List.length_cons,List.length_nil,Tryz.ntmps30];decide) (by simp) ?_;refine Ax hm _ _ _ ?_;simp only [Tryz.ntmps30,Tryz.results30,Ah,Bm,Ce,He,Ab,Bd,A1,Bc,A0,Cw,Ca,Aj,Ad,argW,List.map_cons,List.map_nil,Cc,Nat.zero_add])
 refine SWP.loop (fun i:Nat=>⟨Fp 27 [(0,.p (.sl (Gm p))),(1,.p (.sl (Gm q))),(5,.p (.int .i64 i))],[]⟩) (fun i=>i≤p.length∧i≤q.length∧M0 (p.drop i) (q.drop i)=M0 p q) (fun i=>p.length - i) 0 (St.le_slots (by simp only [Cd,Ck,Ac,Be,Aq,Nat.reduceEqDiff,reduceIte,Nat.reduceLT,Nat.reduceLeDiff];simp (disch:=omega) [Aq,A8,Cm,Aa] <;> (repeat' apply And.intro) <;> omega) (by simp (disch:=omega) [Dc,Ee,C9,Bj,Aq,A8,Cm,Aa]) (by simp [De])) ⟨Nat.zero_le _,Nat.zero_le _,rfl⟩ ?_
 rintro i ⟨h1,h2,h3⟩
 by_cases hi:¬ (i<p.length∧i<q.length)
 ·have e:M0 (p.drop i) (q.drop i)=false:=by
   by_cases hi':i<p.length
   ·rw [show q.drop i=[] from List.drop_eq_nil_of_le (by omega)];exact Jm5 _
   ·rw [show p.drop i=[] from List.drop_eq_nil_of_le (by omega)];rfl
  (refine Ax hm _ _ _ ?_;simp only [Cb,Ah,Bm,Br,Ce,Eh,Cn,Ab,Ci,B0,Bd,A1,Da,Bc,D9,Bf,A0,Cw,A9,Aj,B8,D0,Dw,Ja,Bq,C2,Dq,Db,Dn,Au,Ar,Dm,Ds,D4,Ag,Ae,A3,Bs,Cs,Cr,A6,A7,B9,Av,Ap,Al,B7,B5,Af,Am,Ao,Co,Ay,A2,Ad,Ac,Dy,List.map_cons,List.map_nil,List.getD_cons_zero,List.getD_cons_succ,decide_eq_true_eq,Nat.reduceLT,Nat.reduceEqDiff,and_true,Cc,↓reduceIte,reduceCtorEq,L.p.injEq,PV.bool.injEq,Bool.false_eq_true,Bool.and_true,Bool.or_false,Ir,Dt])
  (repeat' (first | (exfalso;omega)|(refine iteI (fun h=>?_) (fun h=>?_))|(refine B1 (by first | omega | (simp (disch:=omega) only [Aa,Ak,Ai] at *;omega)) ?_;intro b hb)|(refine And.intro (by first | omega | (simp (disch:=omega) only [Aa,Ak,Ai] at *;omega)) ?_)|((first | (refine Ba hm (by rfl) (by kernel_rfl) ?_));simp only [Dh])|(exact True.intro)|(exfalso;omega)))
  all_goals rw [← h3,e]
 ·have hi:=Decidable.not_not.1 hi
  obtain ⟨x,hx⟩:∃ x,p[i]? = some x:=⟨_,List.getElem?_eq_getElem hi.1⟩
  obtain ⟨y,hy⟩:∃ y,q[i]? = some y:=⟨_,List.getElem?_eq_getElem hi.2⟩
  have hgx:=My hx
  have hgy:=My hy
  have hlx:=hn x (List.mem_of_getElem? hx)
  have hly:=hnq y (List.mem_of_getElem? hy)
  have hdx:p.drop i=x :: p.drop (i+1):=by rw [List.drop_eq_getElem_cons hi.1];congr 1;rw [List.getElem?_eq_getElem hi.1] at hx;exact Option.some.inj hx
  have hdy:q.drop i=y :: q.drop (i+1):=by rw [List.drop_eq_getElem_cons hi.2];congr 1;rw [List.getElem?_eq_getElem hi.2] at hy;exact Option.some.inj hy
  rw [hdx,hdy,M0] at h3
  have c1:((i:Int)<(p.length:Int))=True:=eq_true (by omega)
  have c2:((i:Int)<(q.length:Int))=True:=eq_true (by omega)
  skip
  (refine Ax hm _ _ _ ?_;simp only [Cb,Ah,Bm,Br,Ce,Eh,Cn,Ab,Ci,B0,Bd,A1,Da,Bc,D9,Bf,A0,Cw,A9,Aj,B8,D0,Dw,Ja,Bq,C2,Dq,Db,Dn,Au,Ar,Dm,Ds,D4,Ag,Ae,A3,Bs,Cs,Cr,A6,A7,B9,Av,Ap,Al,B7,B5,Af,Am,Ao,Co,Ay,A2,Ad,Ac,Dy,List.map_cons,List.map_nil,List.getD_cons_zero,List.getD_cons_succ,decide_eq_true_eq,Nat.reduceLT,Nat.reduceEqDiff,and_true,Cc,↓reduceIte,reduceCtorEq,L.p.injEq,PV.bool.injEq,Bool.false_eq_true,Bool.and_true,Bool.or_false,Ir,Dt,wi1 (i:=i) (by omega)])
  (repeat' (first | (refine iteI (fun h=>?_) (fun h=>?_))|(refine B1 (by first | omega | (simp (disch:=omega) only [Aa,Ak,Ai] at *;omega)) ?_;intro b hb)|(refine And.intro (by first | omega | (simp (disch:=omega) only [Aa,Ak,Ai] at *;omega)) ?_)|((first | (refine Ba hm (by rfl) (by kernel_rfl) ?_));simp only [Cb,Ah,Bm,Br,Cn,Ab,B3,Bk,Ea,Bd,A1,Mv,Kf,Bc,Bf,A0,Cw,Ca,A9,Aj,B8,Jn,M7,Mq,I4,Bo,Bl,Bq,Au,Jb1,V6,Bt,Ar,Jpi,Wd,Q2,P4,Q9,Q6,E8,Eo,Cj,Ei,C5,I6,Ag,Ae,A3,Bs,Cs,Cr,A6,A7,B9,Av,Ap,Al,B7,B5,Af,Am,Ao,Co,Ay,A2,Ad,Ac,Dy,List.map_cons,List.map_nil,List.length_cons,List.length_nil,List.take_succ_cons,List.take_nil,Bool.not_eq_eq_eq_not,Nat.reduceLT,Nat.reduceLeDiff,Nat.reduceEqDiff,Nat.reduceAdd,true_and,and_true,Cc,↓reduceIte,reduceCtorEq,Int.toNat_natCast,Int.natCast_nonneg,Nat.zero_add,Bool.not_true,L.p.injEq,PV.bool.injEq,Bool.true_and,Bool.and_true,Bool.or_false,Bool.or_true,J8,J0,Jm,f_t47,hgx,hgy,wi1 (i:=i) (by omega)])|(exact True.intro)|(exfalso;omega)))
  ·have h:=(show (x.part == y.part && (x.name == y.name && x.n == y.n))=false by assumption)
   rw [Jb4] at h
   rw [← h3,h];rfl
  ·have h:=(show ¬ (x.part == y.part && (x.name == y.name && x.n == y.n))=false by assumption)
   rw [Jb4,Bool.not_eq_false] at h
   rw [h] at h3
   exact ⟨i+1,⟨by omega,by omega,h3⟩,by omega,(St.le_slots (by simp only [Cd,Ck,Ac,Be,Aq,Nat.reduceEqDiff,reduceIte,Nat.reduceLT,Nat.reduceLeDiff];simp (disch:=omega) [Aq,A8,Cm,Aa] <;> (repeat' apply And.intro) <;> omega) (by simp (disch:=omega) [Dc,Ee,C9,Bj,Aq,A8,Cm,Aa]) (by simp [De]))⟩
instance:DecidableEq Step:=fun x y=>decidable_of_iff _ (Nr (x:=x) (y:=y))
theorem Ja4:∀ {p q:List Step},p.length=q.length→(M0 p q = !decide (p=q))
 | [],[],_=>rfl
 | x :: p,y :: q,h=>by
  rw [M0,Ja4 (p:=p) (q:=q) (by simpa using h)]
  by_cases hx:x=y
  ·subst hx
   have:Ru x x:=Nr.2 rfl
   simp [this]
  ·have:¬ Ru x y:=fun h=>hx (Nr.1 h)
   simp [this,hx]
theorem Jmi (p q:List Step) (hp:p.length≤1000000) (hq:q.length≤1000000) (hn:∀ x∈p,x.name.length≤1000000) (hnq:∀ x∈q,x.name.length≤1000000):Det cx 18 [.p (.sl (Gm p)),.p (.sl (Gm q))] [] (.p (.bool (decide (p=q)))) []:=by
 skip
 (refine B2.of_code (X:=cx) false [] (by simp) Tryz.func18 (by kernel_rfl) rfl (by simp only [List.length_cons,List.length_nil,Tryz.ntmps18];decide) (by simp) ?_;refine Ax hm _ _ _ ?_;simp only [Tryz.ntmps18,Tryz.results18,Ah,Bm,Cn,Ab,Bd,A1,Da,Bc,D9,Bf,A0,Ch,Cw,A9,Aj,B8,D0,Dw,Cg,C2,Dq,Db,Dn,Au,Ar,G0,Ds,D4,Ag,Ae,A3,Cf,Bv,Bi,Bz,Bx,A4,B6,Bh,Az,A5,Bs,Cs,Cr,A6,A7,B9,Av,Ap,Al,B7,B5,Af,Am,Ao,Co,Ay,Cl,A2,Ad,Ac,argW,List.map_cons,List.map_nil,List.getD_cons_zero,List.getD_cons_succ,List.append_nil,List.flatMap_cons,List.flatMap_nil,beq_iff_eq,Nat.reduceLT,Nat.reduceEqDiff,and_true,Cc,Bw,↓reduceIte,reduceCtorEq,Nat.zero_add,L.p.injEq,PV.bool.injEq,Bool.false_eq_true,Bool.and_true,Bool.or_false,Ir,Dt])
 (repeat' (first | (refine iteI (fun h=>?_) (fun h=>?_))|(refine B1 (by first | omega | (simp (disch:=omega) only [Aa,Ak,Ai] at *;omega)) ?_;intro b hb)|(refine And.intro (by first | omega | (simp (disch:=omega) only [Aa,Ak,Ai] at *;omega)) ?_)|((first | (refine Ba hm (by rfl) (by kernel_rfl) ?_)|(refine Det.use (Jfb p q hp hq hn hnq) ?_)|(refine Det.useQ (Jfb p q hp hq hn hnq) ?_));simp only [Cn,Ab,Bd,A1,Da,Bc,Ct,Bf,A0,Cw,Aj,N7,D0,C2,Dq,Db,Dn,J7,Ag,Ae,A3,Bp,B6,Bs,Cs,Cr,A6,A7,B9,Av,Ap,Al,B7,B5,Af,Am,Ao,Co,Ay,A2,Ad,Ac,List.getD_cons_zero,List.getD_cons_succ,Bool.not_eq_eq_eq_not,Nat.reduceLT,Nat.reduceEqDiff,and_true,↓reduceIte,L.p.injEq,PV.bool.injEq,Bool.and_true])|(exact True.intro)|(exfalso;omega)))
 ·rw [Ja4 (by omega)]
 ·exact (decide_eq_false fun e=>by subst e;omega).symm
theorem Jli (p q:List Step) (hl:¬ p.length=q.length):Det cx 64 [.p (.sl (Gm p)),.p (.sl (Gm q))] [] (.p (.bool (decide (p=q)))) []:=by
 skip
 (refine B2.of_code (X:=cx) false [] (by simp) Tryz.func64 (by kernel_rfl) rfl (by simp only [List.length_cons,List.length_nil,Tryz.ntmps64];decide) (by simp) ?_;refine Ax hm _ _ _ ?_;simp only [Tryz.ntmps64,Tryz.results64,Cb,Ah,Bm,Br,Ce,He,Cn,Ab,B3,Bd,A1,Bc,Bf,A0,Cw,Ca,A9,Aj,B8,Dw,Bq,Au,Ar,Kx,Ds,D4,Ag,Ae,A3,Bs,Cs,Cr,A6,A7,B9,Av,Ap,Al,B7,B5,Af,Am,Ao,Co,Ay,A2,Ad,Ac,argW,List.map_cons,List.map_nil,bne_iff_ne,ne_eq,Nat.reduceLT,Nat.reduceEqDiff,and_true,Cc,↓reduceIte,reduceCtorEq,Nat.zero_add,L.p.injEq,PV.bool.injEq,Bool.and_true,Bool.or_false,Ir,Dt])
 (repeat' (first | (refine iteI (fun h=>?_) (fun h=>?_))|(refine B1 (by first | omega | (simp (disch:=omega) only [Aa,Ak,Ai] at *;omega)) ?_;intro b hb)|(refine And.intro (by first | omega | (simp (disch:=omega) only [Aa,Ak,Ai] at *;omega)) ?_)|((first | (refine Ba hm (by rfl) (by kernel_rfl) ?_));simp only [Dh])|(exact True.intro)|(exfalso;omega)))
 exact (decide_eq_false fun e=>hl (by rw [e])).symm
theorem Jlq (p q:List Step) (hp:p.length≤1000000) (hq:q.length≤1000000) (hn:∀ x∈p,x.name.length≤1000000) (hnq:∀ x∈q,x.name.length≤1000000):Det cx 64 [.p (.sl (Gm p)),.p (.sl (Gm q))] [] (.p (.bool (decide (p=q)))) []:=by
 by_cases hl:p.length=q.length
 ·have hpl:(p.length:Int)=(q.length:Int):=by omega
  skip
  (refine B2.of_code (X:=cx) false [] (by simp) Tryz.func64 (by kernel_rfl) rfl (by simp only [List.length_cons,List.length_nil,Tryz.ntmps64];decide) (by simp) ?_;refine Ax hm _ _ _ ?_;simp only [Tryz.ntmps64,Tryz.results64,Cb,Ah,Bm,Br,Ce,He,Cn,Ab,B3,Bd,A1,Bc,Bf,A0,Cw,Ca,A9,Aj,B8,Dw,Bq,Au,Ar,Kx,Ds,D4,Ag,Ae,A3,Bs,Cs,Cr,A6,A7,B9,Av,Ap,Al,B7,B5,Af,Am,Ao,Co,Ay,A2,Ad,Ac,argW,List.map_cons,List.map_nil,bne_iff_ne,ne_eq,Nat.reduceLT,Nat.reduceEqDiff,and_true,Cc,↓reduceIte,reduceCtorEq,Nat.zero_add,L.p.injEq,PV.bool.injEq,Bool.and_true,Bool.or_false,Ir,Dt])
  (repeat' (first | (refine iteI (fun h=>?_) (fun h=>?_))|(refine B1 (by first | omega | (simp (disch:=omega) only [Aa,Ak,Ai] at *;omega)) ?_;intro b hb)|(refine And.intro (by first | omega | (simp (disch:=omega) only [Aa,Ak,Ai] at *;omega)) ?_)|((first | (refine Ba hm (by rfl) (by kernel_rfl) ?_));simp only [Dh])|(exact True.intro)|(exfalso;omega)))
  refine SWP.loop (fun i:Nat=>⟨Fp 26 [(0,.p (.sl (Gm p))),(1,.p (.sl (Gm q))),(12,.p (.int .i64 p.length)),(13,.p (.int .i64 i))],[]⟩) (fun i=>i≤p.length∧p.take i=q.take i) (fun i=>p.length - i) 0 (St.le_slots (by simp only [Cd,Ck,Ac,Be,Aq,Nat.reduceEqDiff,reduceIte,Nat.reduceLT,Nat.reduceLeDiff];simp (disch:=omega) [Aq,A8,Cm,Aa] <;> (repeat' apply And.intro) <;> omega) (by simp (disch:=omega) [Dc,Ee,C9,Bj,Aq,A8,Cm,Aa]) (by simp [De])) ⟨Nat.zero_le _,rfl⟩ ?_
  rintro i ⟨h1,h3⟩
  by_cases hi:¬ i<p.length
  ·have c1:((i:Int)<(p.length:Int))=False:=eq_false (by omega)
   skip
   (refine Ax hm _ _ _ ?_;simp only [Ah,Bm,Br,Eh,Cn,Ab,Ci,B0,Bd,A1,Bc,Bf,A0,Cw,Aj,B8,Bq,Au,Ar,Dm,Ag,Ae,A3,Bs,Cs,Cr,A6,A7,B9,Av,Ap,Al,B7,B5,Af,Am,Ao,Co,Ay,A2,Ad,Ac,Dy,List.map_cons,List.map_nil,decide_eq_true_eq,Nat.reduceLT,Nat.reduceEqDiff,and_true,Cc,↓reduceIte,reduceCtorEq,L.p.injEq,PV.bool.injEq,Bool.and_true,Bool.or_false,c1])
   (repeat' (first | (refine iteI (fun h=>?_) (fun h=>?_))|(refine B1 (by first | omega | (simp (disch:=omega) only [Aa,Ak,Ai] at *;omega)) ?_;intro b hb)|(refine And.intro (by first | omega | (simp (disch:=omega) only [Aa,Ak,Ai] at *;omega)) ?_)|((first | (refine Ba hm (by rfl) (by kernel_rfl) ?_));simp only [Dh])|(exact True.intro)|(exfalso;omega)))
   rw [List.take_of_length_le (by omega),List.take_of_length_le (by omega)] at h3
   exact (decide_eq_true h3).symm
  ·have hi:=Decidable.not_not.1 hi
   obtain ⟨x,hx⟩:∃ x,p[i]? = some x:=⟨_,List.getElem?_eq_getElem hi⟩
   obtain ⟨y,hy⟩:∃ y,q[i]? = some y:=⟨_,List.getElem?_eq_getElem (by omega)⟩
   have hgx:=My hx
   have hgy:=My hy
   have hlx:=hn x (List.mem_of_getElem? hx)
   have hly:=hnq y (List.mem_of_getElem? hy)
   have c1:((i:Int)<(p.length:Int))=True:=eq_true (by omega)
   skip
   (refine Ax hm _ _ _ ?_;simp only [Cb,Ah,Bm,Br,Ce,Ab,Bd,A1,Bc,Bf,A9,Aj,B8,Ja,Bq,Au,Ar,Dm,Ad,Ac,List.map_cons,List.map_nil,decide_eq_true_eq,Nat.reduceLT,Nat.reduceEqDiff,Cc,↓reduceIte,reduceCtorEq,Bool.or_false,c1,wi1 (i:=i) (by omega)])
   (repeat' (first | (refine iteI (fun h=>?_) (fun h=>?_))|(refine B1 (by first | omega | (simp (disch:=omega) only [Aa,Ak,Ai] at *;omega)) ?_;intro b hb)|(refine And.intro (by first | omega | (simp (disch:=omega) only [Aa,Ak,Ai] at *;omega)) ?_)|((first | (refine Ba hm (by rfl) (by kernel_rfl) ?_));simp only [Cb,Ah,Bm,Br,Cn,Ab,B3,Bk,Ea,Bd,A1,Mv,Kf,Bc,Bf,A0,Cw,Ca,A9,Aj,B8,Jn,M7,Mq,I4,Bo,Bl,Bq,Au,Jb1,V6,Bt,Ar,Jpi,Wd,Q2,P4,Q9,Q6,E8,Eo,Cj,Ei,C5,I6,Ag,Ae,A3,Bs,Cs,Cr,A6,A7,B9,Av,Ap,Al,B7,B5,Af,Am,Ao,Co,Ay,A2,Ad,Ac,Dy,List.map_cons,List.map_nil,List.length_cons,List.length_nil,List.take_succ_cons,List.take_nil,Bool.not_eq_eq_eq_not,Nat.reduceLT,Nat.reduceLeDiff,Nat.reduceEqDiff,Nat.reduceAdd,true_and,and_true,Cc,↓reduceIte,reduceCtorEq,Int.toNat_natCast,Int.natCast_nonneg,Nat.zero_add,Bool.not_true,L.p.injEq,PV.bool.injEq,Bool.true_and,Bool.and_true,Bool.or_false,Bool.or_true,J8,J0,Jm,f_t47,hgx,hgy,wi1 (i:=i) (by omega)])|(exact True.intro)|(exfalso;omega)))
   ·have h:=(show (x.part == y.part && (x.name == y.name && x.n == y.n))=false by assumption)
    rw [Jb4,decide_eq_false_iff_not,Nr] at h
    refine (decide_eq_false fun e=>h ?_).symm
    subst e
    rw [hx] at hy;exact Option.some.inj hy
   ·have h:=(show ¬ (x.part == y.part && (x.name == y.name && x.n == y.n))=false by assumption)
    rw [Jb4,Bool.not_eq_false,decide_eq_true_eq,Nr] at h
    subst h
    refine ⟨i+1,⟨by omega,?_⟩,by omega,(St.le_slots (by simp only [Cd,Ck,Ac,Be,Aq,Nat.reduceEqDiff,reduceIte,Nat.reduceLT,Nat.reduceLeDiff];simp (disch:=omega) [Aq,A8,Cm,Aa] <;> (repeat' apply And.intro) <;> omega) (by simp (disch:=omega) [Dc,Ee,C9,Bj,Aq,A8,Cm,Aa]) (by simp [De]))⟩
    rw [List.take_add_one,List.take_add_one,h3,hx,hy]
 ·exact Jli p q hl
def Zk (p q:List Step):Bool:=!decide (p.take (min p.length q.length)=q.take (min p.length q.length))
theorem R6 (p:List Step):∀ x∈Gm p,x.length=3:=by
 intro x hx
 obtain ⟨y,-,rfl⟩:=List.mem_map.1 hx
 rfl
theorem d_Apart (p q:List Step) (hp:p.length≤1000000) (hq:q.length≤1000000) (hn:∀ x∈p,x.name.length≤1000000) (hnq:∀ x∈q,x.name.length≤1000000):Det cx 29 [.p (.sl (Gm p)),.p (.sl (Gm q))] [] (.p (.bool (Zk p q))) []:=by
 have htk (k:Nat) (r:List Step):(Gm r).take k=Gm (r.take k):=by simp [Gm]
 have hmin:min (p.length:Int) (q.length:Int)=((min p.length q.length:Nat):Int):=by omega
 skip
 (refine B2.of_code (X:=cx) false [] (by simp) Tryz.func29 (by kernel_rfl) rfl (by simp only [List.length_cons,List.length_nil,Tryz.ntmps29];decide) (by simp) ?_;refine Ax hm _ _ _ ?_;simp only [Tryz.ntmps29,Tryz.results29,Ah,Bm,Ab,Bd,A1,Bc,Bf,A0,Cw,A9,Aj,Dw,p_min,Ja,u_min,Ds,D4,Ad,Ac,argW,List.map_cons,List.map_nil,Nat.reduceLT,Nat.reduceEqDiff,Cc,↓reduceIte,reduceCtorEq,Nat.zero_add,Ir,Dt,hmin])
 (repeat' (first | (refine iteI (fun h=>?_) (fun h=>?_))|(refine B1 (by first | omega | (simp (disch:=omega) only [Aa,Ak,Ai] at *;omega)) ?_;intro b hb)|(refine And.intro (by first | omega | (simp (disch:=omega) only [Aa,Ak,Ai] at *;omega)) ?_)|((first | (refine Ba hm (by rfl) (by kernel_rfl) ?_)|(refine Det.use (Jlq (p.take (min p.length q.length)) (q.take (min p.length q.length)) (by rw [List.length_take];omega) (by rw [List.length_take];omega) (fun x h=>hn x (List.mem_of_mem_take h)) (fun x h=>hnq x (List.mem_of_mem_take h))) ?_)|(refine Det.useQ (Jlq (p.take (min p.length q.length)) (q.take (min p.length q.length)) (by rw [List.length_take];omega) (by rw [List.length_take];omega) (fun x h=>hn x (List.mem_of_mem_take h)) (fun x h=>hnq x (List.mem_of_mem_take h))) ?_));simp only [Cn,Ab,Mv,Kf,Bc,Bf,Jn,S1,Jby,Pn,Ot,J7,Ev,D5,E2,Jov,Ag,Ae,A3,Bs,Cs,Cr,A6,A7,B9,Av,Ap,Al,B7,B5,Af,Am,Ao,Co,Ay,A2,Ad,Ac,List.map_cons,List.map_nil,Bool.not_eq_eq_eq_not,Nat.reduceLT,Nat.reduceEqDiff,true_and,and_true,Cc,↓reduceIte,reduceCtorEq,Int.toNat_natCast,Int.natCast_nonneg,L.p.injEq,PV.bool.injEq,Bool.true_and,Bool.and_true,Ir,Jm,Dt,htk])|(refine And.intro (R6 _) ?_)|(exact True.intro)|(exfalso;omega)))
 unfold Zk;rw [Bool.not_not]
end Go.LX
