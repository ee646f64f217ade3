/- Package quote: Unquote, Utf. -/
import Derived.Test.YtmejkfclabmijaaGreatDoorPathTextsLxR
set_option linter.unusedSimpArgs false
set_option linter.unusedVariables false
set_option linter.unusedSectionVars false
set_option linter.unnecessarySimpa false
set_option maxRecDepth 100000
set_option maxHeartbeats 2000000
namespace Go.LX
open Go Go.RowKit Go.Proofs
attribute [local irreducible] B2 SWP Hb
theorem Rr {s:List UInt8} {i:Nat} (h:rlen s i≠0):(code s i<128 ↔ at_ s i<128)∧(at_ s i<128→code s i=at_ s i):=by
 have h0:=Nd s i
 rcases Py s i with e | ⟨e,g1⟩ | ⟨e,g1,g2,g3⟩ | ⟨e,g1,g2,g3,g4,g5,g6⟩ | ⟨e,g1,g2,g3,g4,g5,g6,g7⟩
 ·exact absurd e h
 ·have ec:code s i=at_ s i:=by unfold code;rw [if_pos g1]
  omega
 ·have ec:code s i=at_ s i % 32 * 64+at_ s (i+1) % 64:=by unfold code;rw [if_neg (by omega),if_pos (by omega)]
  omega
 ·have ec:code s i=at_ s i % 16 * 4096+at_ s (i+1) % 64 * 64+at_ s (i+2) % 64:=by unfold code;rw [if_neg (by omega),if_neg (by omega),if_pos (by omega)]
  omega
 ·have ec:code s i=at_ s i % 8 * 262144+at_ s (i+1) % 64 * 4096+at_ s (i+2) % 64 * 64+at_ s (i+3) % 64:=by unfold code;rw [if_neg (by omega),if_neg (by omega),if_neg (by omega)]
  omega
theorem Jdz {s:List UInt8} {i:Nat}:rlen s i=1 ↔ at_ s i<128:=by
 rcases Py s i with e | ⟨e,g1⟩ | ⟨e,g1,g2,g3⟩ | ⟨e,g1,g2,g3,g4,g5,g6⟩ | ⟨e,g1,g2,g3,g4,g5,g6,g7⟩
 ·constructor
  ·omega
  ·intro h;unfold rlen at e;rw [if_pos h] at e;cases e
 all_goals omega
theorem Jrm {s:List UInt8} {i:Nat} (h:i<s.length) (hr:rlen s i=0):Wv (s.drop i)=(65533,1):=by
 unfold Wv
 rw [if_neg (by rw [List.length_drop];omega),Jed,Nat.add_zero,Qd,if_pos hr]
theorem Jnq {s:List UInt8} {i:Nat} (h:i<s.length) (hr:rlen s i≠0):Wv (s.drop i)=(code s i,rlen s i):=by
 unfold Wv
 rw [if_neg (by rw [List.length_drop];omega),Jed,Nat.add_zero,Qd,if_neg hr]
theorem Ja1 {s:List UInt8} (h:(escR s).2≠0):Kq (escR s).1:=by
 have h1:=Jgq s
 have h2:=Jgq (s.drop 6)
 unfold escR at h ⊢
 unfold Kq
 split at h
 ·exact absurd rfl h
 ·rename_i hl
  rw [if_neg hl]
  split at h
  ·rename_i r hr
   have:r≤92:=by rcases Ja7 (at_ s 1) with ⟨e,_⟩ | ⟨i,r',e,hr',_⟩ <;> rw [hr] at e <;> cases e;exact hr'
   simp only;omega
  ·split at h
   ·exact absurd rfl h
   ·rename_i g1
    rw [if_neg g1]
    split at h
    ·rename_i g2
     rw [if_pos g2];simp only;omega
    ·rename_i g2
     rw [if_neg g2]
     split at h
     ·exact absurd rfl h
     ·rename_i g3
      rw [if_neg g3];simp only;omega
theorem Ud (r:Int):1≤(utf r).length:=by
 rw [Nw];unfold utfC
 repeat' split
 all_goals simp
def uqSt (i:Nat) (s:List UInt8):List UInt8→St
 | []=>⟨Fp 60 [(0,.p (.str s)),(5,.ptr 5 0 0),(6,.p (.int .i64 i))],[(5,.var 128 [.p .nptr,.p .snil])]⟩
 | c :: t=>⟨Fp 60 [(0,.p (.str s)),(5,.ptr 5 0 0),(6,.p (.int .i64 i))],[(54,.row 5 1 (bstr (c :: t))),(5,.var 128 [.ptr 5 0 0,.own 54 0 (c :: t).length])]⟩
theorem Ue {i:Nat} {s out:List UInt8} (h:out≠[]):uqSt i s out=⟨Fp 60 [(0,.p (.str s)),(5,.ptr 5 0 0),(6,.p (.int .i64 i))],[(54,.row 5 1 (bstr out)),(5,.var 128 [.ptr 5 0 0,.own 54 0 out.length])]⟩:=by
 cases out with
 | nil=>exact absurd rfl h
 | cons c t=>rfl
theorem Jcq {i:Nat} {s:List UInt8}:uqSt i s []=⟨Fp 60 [(0,.p (.str s)),(5,.ptr 5 0 0),(6,.p (.int .i64 i))],[(5,.var 128 [.p .nptr,.p .snil])]⟩:=rfl
theorem pre1 {s:List UInt8}:s.take 1=[34] ↔ ¬ (s.length=0∨at_ s 0≠34):=by
 match s with
 | []=>simp
 | a :: t =>
  simp only [List.take_succ_cons,List.take_zero,List.cons.injEq,and_true,R5,List.length_cons]
  constructor
  ·rintro rfl;simp
  ·intro h
   exact UInt8.toNat_inj.1 (by simp at h ⊢;exact h)
theorem Jgg (s:List UInt8) (hs:s.length≤1000000):Det cx 107 [.p (.str s)] [] (.tup [.str (uq s).1,.int .i64 (uq s).2.1,.int .i64 (uq s).2.2]) []:=by
 (refine B2.of_code (X:=cx) false [] (by simp) Tryz.func107 (by kernel_rfl) rfl (by simp only [List.length_cons,List.length_nil,Tryz.ntmps107];decide) (by simp) ?_;refine Ax hm _ _ _ ?_;simp only [Tryz.ntmps107,Tryz.results107,Ah,Bm,Ab,Bd,A1,Bc,Bf,A0,Ch,Ca,F6,A9,Aj,Cg,Ag,Ae,A3,Cf,Bv,Bi,Bz,Bx,A4,B6,Bh,Az,A5,Cl,Ad,Ac,argW,List.map_cons,List.map_nil,List.append_nil,List.flatMap_cons,List.flatMap_nil,Nat.reduceLT,Nat.reduceEqDiff,Cc,Bw,↓reduceIte,reduceCtorEq])
 (repeat' (first | (refine iteI (fun h=>?_) (fun h=>?_))|(refine B1 (by first | omega | (simp (disch:=omega) only [Aa,Ak,Ai] at *;omega)) ?_;intro b hb)|(refine And.intro (by first | omega | (simp (disch:=omega) only [Aa,Ak,Ai] at *;omega)) ?_)|((first | (refine Ba hm (by rfl) (by kernel_rfl) ?_)|(refine Det.use (G4 s _ hs (by decide)) ?_)|(refine Det.useQ (G4 s _ hs (by decide)) ?_));simp only [Cb,Ah,Bm,Br,Ce,He,Cn,Ab,B3,Bd,A1,Bc,Ct,Bf,A0,Ca,F6,Aj,N7,Hv,Bo,Bq,J7,Gy,Hw,Cu,Ag,Ae,A3,Bp,B6,Bs,Cs,Cr,A6,A7,B9,Av,Ap,Al,B7,B5,Af,Am,Ao,Cy,Ay,B4,Ez,A2,Ad,Ac,Bn,Bg,Bb,List.map_cons,List.map_nil,List.length_cons,List.length_nil,beq_eq_false_iff_ne,Bool.not_eq_eq_eq_not,ne_eq,Nat.reduceLT,Nat.reduceEqDiff,true_and,and_true,Cc,↓reduceIte,Nat.zero_add,Bool.not_true,PV.int.injEq,PV.str.injEq,L.tup.injEq,List.cons.injEq,Bool.true_and,Bool.and_true,Jhm])|(exact True.intro)|(exfalso;omega)))
 ·unfold uq;rw [if_pos (by rw [pre1] at *;exact Decidable.not_not.1 (by assumption))];exact ⟨rfl,rfl,rfl⟩
 have hp:¬ (s.length=0∨at_ s 0≠34):=pre1.1 (Decidable.not_not.1 (by assumption))
 have e:uq s=uqF s (s.length+1) 1 []:=by unfold uq;rw [if_neg hp]
 refine SWP.loop (fun x:Nat×Nat×List UInt8=>uqSt x.1 s x.2.2) (fun x=>1≤x.1∧x.1≤s.length∧s.length+1≤x.1+x.2.1∧x.2.2.length≤4 * x.1∧uqF s x.2.1 x.1 x.2.2=uq s) (fun x=>s.length - x.1) (1,s.length+1,[]) (St.le_slots (by simp only [Cd,Ck,Ac,Be,Aq,Nat.reduceEqDiff,reduceIte,Nat.reduceLT,Nat.reduceLeDiff];simp (disch:=omega) [Aq,A8,Cm,Aa] <;> (repeat' apply And.intro) <;> omega) (by simp (disch:=omega) [Dc,Ee,C9,Bj,Aq,A8,Cm,Aa]) (by simp [De])) ⟨by simp,by simp only;omega,by simp,by simp,e.symm⟩ ?_
 rintro ⟨i,f,out⟩ ⟨h0,h1,h2,h3,h4⟩
 simp only at h0 h1 h2 h3 h4
 obtain ⟨g,rfl⟩:∃ g,f=g+1:=⟨f - 1,by omega⟩
 show SWP _ _ _ _ (uqSt i s out)
 by_cases hlt:¬ i<s.length
 ·rw [uqF,if_neg hlt] at h4
  by_cases hne:out=[]
  ·subst hne
   rw [Jcq]
   (refine Ax hm _ _ _ ?_;simp only [Cb,Ah,Bm,Br,Ce,Eh,Cn,Ab,Ci,B0,Bd,A1,Bc,Bf,A0,Ch,Ca,F6,A9,Aj,B8,E7,Dw,Cg,Bq,Au,Ar,Dm,Ds,Dl,Ev,D5,E2,H4,Gf,Ag,Ae,A3,Cf,Bv,Bi,Bz,Bx,A4,B6,Bh,Az,A5,Bs,Cs,Cr,A6,A7,B9,Av,Ap,Al,B7,B5,Af,Am,Ao,Cy,Ay,Aw,Cl,A2,Ad,Ac,Dy,List.map_cons,List.map_nil,List.append_nil,List.flatMap_cons,List.flatMap_nil,decide_eq_true_eq,Nat.reduceLT,Nat.reduceEqDiff,true_and,and_true,Cc,Bw,↓reduceIte,reduceCtorEq,Int.toNat_natCast,Int.natCast_nonneg,PV.int.injEq,PV.str.injEq,L.tup.injEq,List.cons.injEq,Bool.true_and,Bool.and_true,Bool.or_false,Hi])
   (repeat' (first | (refine iteI (fun h=>?_) (fun h=>?_))|(refine B1 (by first | omega | (simp (disch:=omega) only [Aa,Ak,Ai] at *;omega)) ?_;intro b hb)|(refine And.intro (by first | omega | (simp (disch:=omega) only [Aa,Ak,Ai] at *;omega)) ?_)|((first | (refine Ba hm (by rfl) (by kernel_rfl) ?_));simp only [Dh])|(exact True.intro)|(exfalso;omega)))
   rw [← h4];exact ⟨rfl,rfl,rfl⟩
  ·rw [Ue hne]
   (refine Ax hm _ _ _ ?_;simp only [Cb,Ah,Bm,Br,Ce,Eh,Cn,Ab,Ci,B0,Bd,A1,Bc,Bf,A0,Ch,Ca,F6,A9,Aj,B8,E7,Dw,Cg,Bq,Au,Ar,Dm,Ds,Dl,Ev,D5,E2,H4,Gf,Ag,Ae,A3,Cf,Bv,Bi,Bz,Bx,A4,B6,Bh,Az,A5,Bs,Cs,Cr,A6,A7,B9,Av,Ap,Al,B7,B5,Af,Am,Ao,Cy,Ay,Aw,Cl,A2,Ad,Ac,Dy,List.map_cons,List.map_nil,List.append_nil,List.flatMap_cons,List.flatMap_nil,decide_eq_true_eq,Nat.reduceLT,Nat.reduceEqDiff,true_and,and_true,Cc,Bw,↓reduceIte,reduceCtorEq,Int.toNat_natCast,Int.natCast_nonneg,PV.int.injEq,PV.str.injEq,L.tup.injEq,List.cons.injEq,Bool.true_and,Bool.and_true,Bool.or_false,Hi])
   (repeat' (first | (refine iteI (fun h=>?_) (fun h=>?_))|(refine B1 (by first | omega | (simp (disch:=omega) only [Aa,Ak,Ai] at *;omega)) ?_;intro b hb)|(refine And.intro (by first | omega | (simp (disch:=omega) only [Aa,Ak,Ai] at *;omega)) ?_)|((first | (refine Ba hm (by rfl) (by kernel_rfl) ?_));simp only [Dh])|(exact True.intro)|(exfalso;omega)))
   rw [← h4];exact ⟨rfl,rfl,rfl⟩
 ·have hlt:=Decidable.not_not.1 hlt
  have ht:=tk_le s i hlt
  rw [uqF,if_pos hlt] at h4
  by_cases hr:rlen s i=0
  ·have hd:=Jrm hlt hr
   have ha:128≤at_ s i:=Nat.le_of_not_lt fun h=>by rw [Jdz.2 h] at hr;cases hr
   have h5:(tk s i).2=0:=by unfold tk;rw [if_neg (by omega)];exact hr
   rw [if_neg (by omega),if_pos (.inl h5)] at h4
   by_cases hne:out=[]
   ·subst hne
    rw [Jcq]
    skip
    (refine Ax hm _ _ _ ?_;simp only [Cb,Ah,Bm,Br,Ce,Eh,Cn,Ab,Ci,B0,Bd,A1,Bc,Bf,A0,Ch,Ca,F6,A9,Aj,B8,E7,Dw,Cg,Bq,Au,Ar,Dm,Ds,Dl,Ev,D5,E2,H4,Gf,Ag,Ae,A3,Cf,Bv,Bi,Bz,Bx,A4,B6,Bh,Az,A5,Bs,Cs,Cr,A6,A7,B9,Av,Ap,Al,B7,B5,Af,Am,Ao,Cy,Ay,Aw,Cl,A2,Ad,Ac,Dy,List.map_cons,List.map_nil,List.append_nil,List.flatMap_cons,List.flatMap_nil,decide_eq_true_eq,Nat.reduceLT,Nat.reduceEqDiff,true_and,and_true,Cc,Bw,↓reduceIte,reduceCtorEq,Int.toNat_natCast,Int.natCast_nonneg,PV.int.injEq,PV.str.injEq,L.tup.injEq,List.cons.injEq,Bool.true_and,Bool.and_true,Bool.or_false,Hi])
    (repeat' (first | (refine iteI (fun h=>?_) (fun h=>?_))|(refine B1 (by first | omega | (simp (disch:=omega) only [Aa,Ak,Ai] at *;omega)) ?_;intro b hb)|(refine And.intro (by first | omega | (simp (disch:=omega) only [Aa,Ak,Ai] at *;omega)) ?_)|((first | (refine Ba hm (by rfl) (by kernel_rfl) ?_)|(refine Det.use (L2 _) ?_)|(refine Det.useQ (L2 _) ?_));simp only [Cb,Ah,Bm,Br,Ce,Cn,Ab,B3,Bk,Ea,Bd,A1,Da,Bc,D9,Ct,Bf,A0,Ch,Cw,Ca,F6,A9,Aj,B8,D0,E7,Ek,Cg,Bl,Bq,C2,Dq,Db,Dn,Au,Bt,Ar,G0,Dm,G8,Ev,D5,E2,H4,Gf,Eb,Ag,Ae,A3,H1,Cf,Bv,Bi,Bz,Bx,Fb,A4,Bp,D7,Gn,Fr,Fq,Eg,B6,Fi,Et,Gw,Bh,Az,Ff,A5,Fe,Hj,Fd,Eu,Fc,Ie,Ig,Fa,Ew,Bs,Cs,Cr,A6,A7,B9,Av,Ap,Al,B7,B5,Af,Am,Ao,Cy,Ay,Aw,H2,Cl,I5,A2,Ad,Ac,Dy,List.map_cons,List.map_nil,List.getD_cons_zero,List.getD_cons_succ,List.length_cons,List.length_nil,List.append_nil,List.flatMap_cons,List.flatMap_nil,List.contains_cons,List.contains_nil,List.getElem?_cons_zero,List.getElem?_cons_succ,decide_eq_true_eq,beq_iff_eq,Nat.reduceLT,Nat.reduceEqDiff,Nat.reduceAdd,true_and,and_true,Cc,Bw,↓reduceIte,reduceCtorEq,Int.toNat_natCast,Int.natCast_nonneg,Nat.zero_add,PV.int.injEq,PV.str.injEq,L.tup.injEq,List.cons.injEq,Bool.false_eq_true,Bool.true_and,Bool.and_true,Bool.or_false,Bool.or_true,beq_self_eq_true,Hi,hd])|(exact True.intro)|(exfalso;omega)))
    rw [← h4];exact ⟨rfl,rfl,rfl⟩
   ·rw [Ue hne]
    (refine Ax hm _ _ _ ?_;simp only [Cb,Ah,Bm,Br,Ce,Eh,Cn,Ab,Ci,B0,Bd,A1,Bc,Bf,A0,Ch,Ca,F6,A9,Aj,B8,E7,Dw,Cg,Bq,Au,Ar,Dm,Ds,Dl,Ev,D5,E2,H4,Gf,Ag,Ae,A3,Cf,Bv,Bi,Bz,Bx,A4,B6,Bh,Az,A5,Bs,Cs,Cr,A6,A7,B9,Av,Ap,Al,B7,B5,Af,Am,Ao,Cy,Ay,Aw,Cl,A2,Ad,Ac,Dy,List.map_cons,List.map_nil,List.append_nil,List.flatMap_cons,List.flatMap_nil,decide_eq_true_eq,Nat.reduceLT,Nat.reduceEqDiff,true_and,and_true,Cc,Bw,↓reduceIte,reduceCtorEq,Int.toNat_natCast,Int.natCast_nonneg,PV.int.injEq,PV.str.injEq,L.tup.injEq,List.cons.injEq,Bool.true_and,Bool.and_true,Bool.or_false,Hi])
    (repeat' (first | (refine iteI (fun h=>?_) (fun h=>?_))|(refine B1 (by first | omega | (simp (disch:=omega) only [Aa,Ak,Ai] at *;omega)) ?_;intro b hb)|(refine And.intro (by first | omega | (simp (disch:=omega) only [Aa,Ak,Ai] at *;omega)) ?_)|((first | (refine Ba hm (by rfl) (by kernel_rfl) ?_)|(refine Det.use (L2 _) ?_)|(refine Det.useQ (L2 _) ?_));simp only [Cb,Ah,Bm,Br,Ce,Cn,Ab,B3,Bk,Ea,Bd,A1,Da,Bc,D9,Ct,Bf,A0,Ch,Cw,Ca,F6,A9,Aj,B8,D0,E7,Ek,Cg,Bl,Bq,C2,Dq,Db,Dn,Au,Bt,Ar,G0,Dm,G8,Ev,D5,E2,H4,Gf,Eb,Ag,Ae,A3,H1,Cf,Bv,Bi,Bz,Bx,Fb,A4,Bp,D7,Gn,Fr,Fq,Eg,Di,B6,Fi,D2,Et,Gw,Ey,Bh,Az,Ff,A5,Fe,Hj,Fd,Eu,Fc,H3,Ie,Ig,Fa,Ew,Bs,Cs,Cr,A6,A7,B9,Av,Ap,Al,B7,B5,Af,Am,Ao,Cy,Ay,Aw,H2,Jq,Cl,I5,Ki,A2,Ad,Ac,Dy,List.map_cons,List.map_nil,List.getD_cons_zero,List.getD_cons_succ,List.length_cons,List.length_nil,List.cons_append,List.nil_append,List.append_nil,List.flatMap_cons,List.flatMap_nil,List.contains_cons,List.contains_nil,List.getElem?_cons_zero,List.getElem?_cons_succ,decide_eq_true_eq,beq_iff_eq,Nat.reduceLT,Nat.reduceLeDiff,Nat.reduceEqDiff,Nat.reduceAdd,Nat.reduceBEq,true_and,and_true,Cc,Bw,↓reduceIte,reduceCtorEq,Int.toNat_natCast,Int.natCast_nonneg,Nat.zero_add,PV.int.injEq,PV.str.injEq,L.tup.injEq,List.cons.injEq,Bool.false_eq_true,Bool.true_and,Bool.and_true,Bool.or_false,Bool.or_true,beq_self_eq_true,Hi,hd])|(exact True.intro)|(exfalso;omega)))
    rw [← h4];exact ⟨rfl,rfl,rfl⟩
  ·have hd:=Jnq hlt hr
   have hc:=Rr hr
   have hone:rlen s i=1 ↔ at_ s i<128:=Jdz
   have hR:=Qf hr
   unfold Kq at hR
   have hE:(escR (s.drop i)).2≠0→0≤(escR (s.drop i)).1∧(escR (s.drop i)).1≤1114111:=fun h=>by
    have:=Ja1 h
    unfold Kq at this
    omega
   have hEl:=Jop (s.drop i)
   have h4r:=Yi s i
   have hT9:at_ s i=92→(escR (s.drop i)).2≠0→tk s i=(utf (escR (s.drop i)).1,(escR (s.drop i)).2):=fun h h'=>by
    unfold tk;rw [if_pos h];unfold escS;rw [if_neg h']
   have hT0:at_ s i=92→(escR (s.drop i)).2=0→(tk s i).2=0:=fun h h'=>by
    unfold tk;rw [if_pos h];unfold escS;rw [if_pos h']
   have hTn:at_ s i≠92→tk s i=(utf (code s i),rlen s i):=fun h=>by
    unfold tk;rw [if_neg h,Tl hr hlt]
   have hu1:=Ud (code s i)
   have hu2:=Ud (escR (s.drop i)).1
   have hnn:∀ r,out ++ utf r≠[]:=fun r h=>by have:=Ud r;rw [(List.append_eq_nil_iff.1 h).2] at this;simp at this
   by_cases hne:out=[]
   ·subst hne
    rw [Jcq]
    skip
    (refine Ax hm _ _ _ ?_;simp only [Cb,Ah,Bm,Br,Ce,Eh,Cn,Ab,Ci,B0,Bd,A1,Bc,Bf,A0,Ch,Ca,F6,A9,Aj,B8,E7,Dw,Cg,Bq,Au,Ar,Dm,Ds,Dl,Ev,D5,E2,H4,Gf,Ag,Ae,A3,Cf,Bv,Bi,Bz,Bx,A4,B6,Bh,Az,A5,Bs,Cs,Cr,A6,A7,B9,Av,Ap,Al,B7,B5,Af,Am,Ao,Cy,Ay,Aw,Cl,A2,Ad,Ac,Dy,List.map_cons,List.map_nil,List.append_nil,List.flatMap_cons,List.flatMap_nil,decide_eq_true_eq,Nat.reduceLT,Nat.reduceEqDiff,true_and,and_true,Cc,Bw,↓reduceIte,reduceCtorEq,Int.toNat_natCast,Int.natCast_nonneg,PV.int.injEq,PV.str.injEq,L.tup.injEq,List.cons.injEq,Bool.true_and,Bool.and_true,Bool.or_false,Hi,wi1 (i:=i) (by omega),wia (i:=i) (j:=rlen s i) (by omega) (by omega),wia (i:=i) (j:=(escR (s.drop i)).2) (by omega) (by omega)])
    (repeat' (first | (refine iteI (fun h=>?_) (fun h=>?_))|(refine B1 (by first | omega | (simp (disch:=omega) only [Aa,Ak,Ai] at *;omega)) ?_;intro b hb)|(refine And.intro (by first | omega | (simp (disch:=omega) only [Aa,Ak,Ai] at *;omega)) ?_)|((first | (refine Ba hm (by rfl) (by kernel_rfl) ?_)|(refine Det.use (L2 _) ?_)|(refine Det.useQ (L2 _) ?_)|(refine Det.use (Po) ?_)|(refine Det.useQ (Po) ?_)|(refine Det.use (Yt _ (by rw [List.length_drop];omega)) ?_)|(refine Det.useQ (Yt _ (by rw [List.length_drop];omega)) ?_)|(refine Det.use (Se _ (by omega) (by omega)) ?_)|(refine Det.useQ (Se _ (by omega) (by omega)) ?_));simp only [Cb,Ah,Bm,Br,Ce,Cn,Ab,B3,Bk,Ea,Bd,A1,Da,Bc,D9,Ct,Bf,A0,Ch,Cw,Ca,F6,A9,Aj,B8,D0,E7,Ek,Cg,Bl,Bq,C2,Dq,Db,Dn,Au,Bt,Ar,E8,G0,Dm,G8,Ev,D5,E2,H4,Gf,Eb,Ag,Ae,A3,H1,Cf,Bv,Bi,Bz,Bx,Fb,A4,Bp,Ik,Kt,D3,Gk,G2,Dz,Es,Hk,Hp,H6,Lo,Fm,Fh,Fs,Fx,Fv,Hs,Hl,Jd,Jz,D6,Bu,D7,Iu,Hm,Nz,Ft,Gl,Gn,Fr,Fq,Eg,Di,B6,Fi,D2,Et,Gw,Ey,Bh,Az,Ff,A5,Fe,Hj,Fd,Eu,Fc,Ie,Ig,Fa,Ew,Bs,Cs,Cr,A6,A7,B9,Av,Ap,Al,B7,B5,Af,Am,Ao,Cy,Ay,Aw,H2,Cl,I5,A2,Ad,Ac,Cq,Bg,Bb,Dy,List.map_cons,List.map_nil,List.getD_cons_zero,List.getD_cons_succ,List.length_cons,List.length_nil,List.cons_append,List.nil_append,List.append_nil,List.flatMap_cons,List.flatMap_nil,List.contains_cons,List.contains_nil,List.getElem?_cons_zero,List.getElem?_cons_succ,decide_eq_true_eq,beq_iff_eq,ne_eq,not_false_eq_true,Nat.reduceLT,Nat.reduceLeDiff,Nat.reduceEqDiff,Nat.reduceAdd,true_and,and_true,Cc,Bw,↓reduceIte,reduceCtorEq,Int.toNat_natCast,Int.natCast_nonneg,Nat.zero_add,PV.int.injEq,PV.str.injEq,L.tup.injEq,List.cons.injEq,Bool.false_eq_true,Bool.true_and,Bool.and_true,Bool.or_false,Bool.or_true,beq_self_eq_true,Hi,hd,wi1 (i:=i) (by omega),wia (i:=i) (j:=rlen s i) (by omega) (by omega),wia (i:=i) (j:=(escR (s.drop i)).2) (by omega) (by omega)])|(exact True.intro)|(exfalso;omega)))
    all_goals first
     | (rw [if_pos (by omega)] at h4;rw [← h4];exact ⟨rfl,rfl,rfl⟩)
     | (rw [if_neg (by omega),if_pos (.inl (hT0 (by omega) (by omega)))] at h4;rw [← h4];exact ⟨rfl,rfl,rfl⟩)
     | (rw [if_neg (by omega),if_pos (.inr (by omega))] at h4;rw [← h4];exact ⟨rfl,rfl,rfl⟩)
     | (
      have hT:=hTn (by omega)
      rw [hT] at h4 ht
      simp only at h4 ht
      rw [if_neg (by omega),if_neg (by omega)] at h4
      refine ⟨(i+rlen s i,g,[] ++ utf (code s i)),⟨by simp only;omega,by simp only;omega,by simp only;omega,by simp only [List.length_append,List.length_nil];omega,h4⟩,by simp only;omega,?_⟩
      simp only;rw [Ue (hnn _)];exact (St.le_slots (by simp only [Cd,Ck,Ac,Be,Aq,Nat.reduceEqDiff,reduceIte,Nat.reduceLT,Nat.reduceLeDiff];simp (disch:=omega) [Aq,A8,Cm,Aa] <;> (repeat' apply And.intro) <;> omega) (by simp (disch:=omega) [Dc,Ee,C9,Bj,Aq,A8,Cm,Aa]) (by simp [De])))
     | (
      have hT:=hT9 (by omega) (by omega)
      rw [hT] at h4 ht
      simp only at h4 ht
      rw [if_neg (by omega),if_neg (by omega)] at h4
      refine ⟨(i+(escR (s.drop i)).2,g,[] ++ utf (escR (s.drop i)).1),⟨by simp only;omega,by simp only;omega,by simp only;omega,by simp only [List.length_append,List.length_nil];omega,h4⟩,by simp only;omega,?_⟩
      simp only;rw [Ue (hnn _)];exact (St.le_slots (by simp only [Cd,Ck,Ac,Be,Aq,Nat.reduceEqDiff,reduceIte,Nat.reduceLT,Nat.reduceLeDiff];simp (disch:=omega) [Aq,A8,Cm,Aa] <;> (repeat' apply And.intro) <;> omega) (by simp (disch:=omega) [Dc,Ee,C9,Bj,Aq,A8,Cm,Aa]) (by simp [De])))
   ·have hl0:out.length≠0:=fun h=>hne (List.eq_nil_of_length_eq_zero h)
    rw [Ue hne]
    (refine Ax hm _ _ _ ?_;simp only [Cb,Ah,Bm,Br,Ce,Eh,Cn,Ab,Ci,B0,Bd,A1,Bc,Bf,A0,Ch,Ca,F6,A9,Aj,B8,E7,Dw,Cg,Bq,Au,Ar,Dm,Ds,Dl,Ev,D5,E2,H4,Gf,Ag,Ae,A3,Cf,Bv,Bi,Bz,Bx,A4,B6,Bh,Az,A5,Bs,Cs,Cr,A6,A7,B9,Av,Ap,Al,B7,B5,Af,Am,Ao,Cy,Ay,Aw,Cl,A2,Ad,Ac,Dy,List.map_cons,List.map_nil,List.append_nil,List.flatMap_cons,List.flatMap_nil,decide_eq_true_eq,Nat.reduceLT,Nat.reduceEqDiff,true_and,and_true,Cc,Bw,↓reduceIte,reduceCtorEq,Int.toNat_natCast,Int.natCast_nonneg,PV.int.injEq,PV.str.injEq,L.tup.injEq,List.cons.injEq,Bool.true_and,Bool.and_true,Bool.or_false,Hi,wi1 (i:=i) (by omega),wia (i:=i) (j:=rlen s i) (by omega) (by omega),wia (i:=i) (j:=(escR (s.drop i)).2) (by omega) (by omega)])
    (repeat' (first | (refine iteI (fun h=>?_) (fun h=>?_))|(refine B1 (by first | omega | (simp (disch:=omega) only [Aa,Ak,Ai] at *;omega)) ?_;intro b hb)|(refine And.intro (by first | omega | (simp (disch:=omega) only [Aa,Ak,Ai] at *;omega)) ?_)|((first | (refine Ba hm (by rfl) (by kernel_rfl) ?_)|(refine Det.use (L2 _) ?_)|(refine Det.useQ (L2 _) ?_)|(refine Det.use (Og out _ rfl (by omega) hl0) ?_)|(refine Det.useQ (Og out _ rfl (by omega) hl0) ?_)|(refine Det.use (Yt _ (by rw [List.length_drop];omega)) ?_)|(refine Det.useQ (Yt _ (by rw [List.length_drop];omega)) ?_)|(refine Det.use (N1 _ _ _ (Mw _) (by omega) (by omega) (by omega)) ?_)|(refine Det.useQ (N1 _ _ _ (Mw _) (by omega) (by omega) (by omega)) ?_));simp only [Cb,Ah,Bm,Br,Ce,Cn,Ab,B3,Bk,Ea,Bd,A1,Da,Bc,D9,Ct,Bf,A0,Ch,Cw,Ca,F6,A9,Aj,B8,D0,E7,Ek,Cg,Bl,Bq,C2,Dq,Db,Dn,Au,Bt,Ar,E8,G0,Dm,G8,Ev,D5,E2,H4,Gf,Eb,Ag,Ae,A3,H1,Cf,Bv,Bi,Bz,Bx,Fb,A4,Bp,Ik,D3,Gk,Dz,Es,Hk,Hp,Fm,Fh,Fs,Fx,Mg,Fv,Hl,Jd,D6,Bu,D7,Iu,Ip,Ft,Gl,Gn,Fr,Fq,Eg,Di,B6,Fi,D2,Et,H7,Gw,Ey,Bh,Az,Ff,A5,Fe,Hj,Fd,Eu,Fc,H3,Ie,Ig,Fa,Ew,Bs,Cs,Cr,A6,A7,B9,Av,Ap,Al,B7,B5,Af,Am,Ao,Cy,Ay,Aw,H2,Jq,Cl,I5,Ki,A2,Ad,Ac,Cq,Bg,Bb,Dy,List.map_cons,List.map_nil,List.getD_cons_zero,List.getD_cons_succ,List.length_cons,List.length_nil,List.cons_append,List.nil_append,List.append_nil,List.flatMap_cons,List.flatMap_nil,List.contains_cons,List.contains_nil,List.getElem?_cons_zero,List.getElem?_cons_succ,decide_eq_true_eq,beq_iff_eq,Nat.reduceLT,Nat.reduceLeDiff,Nat.reduceEqDiff,Nat.reduceAdd,Nat.reduceBEq,true_and,and_true,Cc,Bw,↓reduceIte,reduceCtorEq,Int.toNat_natCast,Int.natCast_nonneg,Nat.zero_add,PV.int.injEq,PV.str.injEq,L.tup.injEq,List.cons.injEq,Bool.false_eq_true,Bool.true_and,Bool.and_true,Bool.or_false,Bool.or_true,beq_self_eq_true,Hi,hd,wi1 (i:=i) (by omega),wia (i:=i) (j:=rlen s i) (by omega) (by omega),wia (i:=i) (j:=(escR (s.drop i)).2) (by omega) (by omega)])|(exact True.intro)|(exfalso;omega)))
    all_goals first
     | (rw [if_pos (by omega)] at h4;rw [← h4];exact ⟨rfl,rfl,rfl⟩)
     | (rw [if_neg (by omega),if_pos (.inl (hT0 (by omega) (by omega)))] at h4;rw [← h4];exact ⟨rfl,rfl,rfl⟩)
     | (rw [if_neg (by omega),if_pos (.inr (by omega))] at h4;rw [← h4];exact ⟨rfl,rfl,rfl⟩)
     | (
      have hT:=hTn (by omega)
      rw [hT] at h4 ht
      simp only at h4 ht
      rw [if_neg (by omega),if_neg (by omega)] at h4
      refine ⟨(i+rlen s i,g,out ++ utf (code s i)),⟨by simp only;omega,by simp only;omega,by simp only;omega,by simp only [List.length_append];omega,h4⟩,by simp only;omega,?_⟩
      simp only;rw [Ue (hnn _),Rw,List.length_append];exact (St.le_slots (by simp only [Cd,Ck,Ac,Be,Aq,Nat.reduceEqDiff,reduceIte,Nat.reduceLT,Nat.reduceLeDiff];simp (disch:=omega) [Aq,A8,Cm,Aa] <;> (repeat' apply And.intro) <;> omega) (by simp (disch:=omega) [Dc,Ee,C9,Bj,Aq,A8,Cm,Aa]) (by simp [De])))
     | (
      have hT:=hT9 (by omega) (by omega)
      rw [hT] at h4 ht
      simp only at h4 ht
      rw [if_neg (by omega),if_neg (by omega)] at h4
      refine ⟨(i+(escR (s.drop i)).2,g,out ++ utf (escR (s.drop i)).1),⟨by simp only;omega,by simp only;omega,by simp only;omega,by simp only [List.length_append];omega,h4⟩,by simp only;omega,?_⟩
      simp only;rw [Ue (hnn _),Rw,List.length_append];exact (St.le_slots (by simp only [Cd,Ck,Ac,Be,Aq,Nat.reduceEqDiff,reduceIte,Nat.reduceLT,Nat.reduceLeDiff];simp (disch:=omega) [Aq,A8,Cm,Aa] <;> (repeat' apply And.intro) <;> omega) (by simp (disch:=omega) [Dc,Ee,C9,Bj,Aq,A8,Cm,Aa]) (by simp [De])))
end Go.LX
set_option maxRecDepth 100000
set_option maxHeartbeats 2000000
namespace Go.LX
open Go Go.RowKit Go.Proofs
attribute [local irreducible] B2 SWP Hb
theorem Jib {s:List UInt8} {i:Nat} (h:rlen s i≠0) (hi:i<s.length):(utf (code s i)).length=rlen s i:=by
 have h1:=Wg s i hi
 rw [Tl h hi]
 simp;omega
def letR (r:Int):Option Nat :=
 if r=34 then some 34 else if r=92 then some 92 else if r=8 then some 98 else if r=12 then some 102 else if r=10 then some 110 else if r=13 then some 114 else if r=9 then some 116 else none
def letN:Nat→Nat
 | 0=>34 | 1=>92 | 2=>47 | 3=>8 | 4=>12 | 5=>10 | 6=>13 | 7=>9 | _=>0
theorem Yk {i:Nat} {p:PV×PV} (h:N3[i]? = some p):i<8∧∃ c r:Nat,p=(.int .u8 c,.int .i32 r):=by
 have hl:=(List.getElem?_eq_some_iff.1 h).1
 have h8:i<8:=hl
 refine ⟨h8,?_⟩
 have key:∀ j:Fin 8,∃ c r:Nat,N3[j.val]? = some (.int .u8 c,.int .i32 r):=by
  intro j
  match j with
  | ⟨0,_⟩=>exact ⟨34,34,rfl⟩
  | ⟨1,_⟩=>exact ⟨92,92,rfl⟩
  | ⟨2,_⟩=>exact ⟨47,47,rfl⟩
  | ⟨3,_⟩=>exact ⟨98,8,rfl⟩
  | ⟨4,_⟩=>exact ⟨102,12,rfl⟩
  | ⟨5,_⟩=>exact ⟨110,10,rfl⟩
  | ⟨6,_⟩=>exact ⟨114,13,rfl⟩
  | ⟨7,_⟩=>exact ⟨116,9,rfl⟩
 obtain ⟨c,r,hk⟩:=key ⟨i,h8⟩
 rw [hk] at h
 exact ⟨c,r,(Option.some.inj h).symm⟩
theorem Jrk {i j:Nat} {v w k:PV} (hi:N3[i]? = some (v,k)) (hj:N3[j]? = some (w,k)):i=j:=by
 obtain ⟨h1,a,r,e1⟩:=Yk hi
 obtain ⟨h2,b,q,e2⟩:=Yk hj
 obtain ⟨rfl,rfl⟩:=Prod.mk.inj e1
 obtain ⟨rfl,e3⟩:=Prod.mk.inj e2
 have hrq:r=q:=by injection e3 with _ h;omega
 subst hrq
 have key:∀ i j:Fin 8,∀ a b r:Nat,N3[i.val]? = some (.int .u8 a,.int .i32 r)→N3[j.val]? = some (.int .u8 b,.int .i32 r)→(letN i.val=r∧letN j.val=r):=by
  intro i j a b r hi hj
  have f:∀ k:Fin 8,∀ c q:Nat,N3[k.val]? = some (.int .u8 c,.int .i32 q)→letN k.val=q:=by
   intro k c q h
   match k,h with
   | ⟨0,_⟩,h=>cases h;rfl
   | ⟨1,_⟩,h=>cases h;rfl
   | ⟨2,_⟩,h=>cases h;rfl
   | ⟨3,_⟩,h=>cases h;rfl
   | ⟨4,_⟩,h=>cases h;rfl
   | ⟨5,_⟩,h=>cases h;rfl
   | ⟨6,_⟩,h=>cases h;rfl
   | ⟨7,_⟩,h=>cases h;rfl
  exact ⟨f i a r hi,f j b r hj⟩
 obtain ⟨k1,k2⟩:=key ⟨i,h1⟩ ⟨j,h2⟩ a b r hi hj
 have inj:∀ i j:Fin 8,letN i.val=letN j.val→i=j:=by decide
 exact congrArg Fin.val (inj ⟨i,h1⟩ ⟨j,h2⟩ (k1.trans k2.symm))
theorem Jm2 {i:Nat} {v:PV} {r:Int} (h:N3[i]? = some (v,.int .i32 r)):r=34∨r=92∨r=47∨r=8∨r=12∨r=10∨r=13∨r=9:=by
 obtain ⟨h8,_⟩:=Yk h
 have f:∀ k:Fin 8,N3[k.val]? = some (v,.int .i32 r)→r=34∨r=92∨r=47∨r=8∨r=12∨r=10∨r=13∨r=9:=by
  intro k h
  match k,h with
  | ⟨0,_⟩,h=>cases h;simp
  | ⟨1,_⟩,h=>cases h;simp
  | ⟨2,_⟩,h=>cases h;simp
  | ⟨3,_⟩,h=>cases h;simp
  | ⟨4,_⟩,h=>cases h;simp
  | ⟨5,_⟩,h=>cases h;simp
  | ⟨6,_⟩,h=>cases h;simp
  | ⟨7,_⟩,h=>cases h;simp
 exact f ⟨i,h8⟩ h
def LetMap (es:List (PV×PV)):Prop:=∀ r:Int,(letR r=none∧K2 (.int .i32 r) es 0=some none)∨∃ i c,letR r=some c∧c≤116∧K2 (.int .i32 r) es 0=some (some (i,.int .u8 c))
theorem Jrh:B2 cx 179 [] [] (fun m q=>q=[]∧∃ es,m=.p (.mp es)∧LetMap es):=by
 (refine B2.of_code (X:=cx) false [] (by simp) Tryz.func179 (by kernel_rfl) rfl (by simp only [List.length_nil,Tryz.ntmps179];decide) (by simp) ?_;refine Ax hm _ _ _ ?_;simp only [Tryz.ntmps179,Tryz.results179,Ah,Bm,Ab,Bd,A1,Bc,Ct,Bf,A0,Ch,Jn3,Aj,Cg,Zp,Cu,Ag,Cf,Bv,Bi,Bz,Bx,A4,Bh,Az,A5,Jad,B4,Ez,Ad,Ac,Bn,Bg,Bb,argW,List.map_cons,List.map_nil,List.append_nil,List.flatMap_nil,Nat.reduceLT,Nat.reduceEqDiff,true_and,Cc,Bw,↓reduceIte,Bool.true_and])
 (repeat' (first | (refine iteI (fun h=>?_) (fun h=>?_))|(refine B1 (by first | omega | (simp (disch:=omega) only [Aa,Ak,Ai] at *;omega)) ?_;intro b hb)|(refine And.intro (by first | omega | (simp (disch:=omega) only [Aa,Ak,Ai] at *;omega)) ?_)|((first | (refine Ba hm (by rfl) (by kernel_rfl) ?_)|(refine Det.use (V3) ?_)|(refine Det.useQ (V3) ?_));simp only [Ce,He,Ab,Bd,A1,Ct,Bf,V1,Cu,Bp,B6,Wf,Joq,B4,C4,Jjt,Ez,Jjm,Ad,Ac,Bn,Bg,Bb,Nat.reduceLT,Nat.reduceEqDiff,true_and,Cc,↓reduceIte,Bool.true_and,Jr2])|(exact True.intro)|(exfalso;omega)))
 refine SWP.loop (fun x:List (PV×PV)×List Nat=>⟨Fp 17 [(1,.mref 4),(6,.ptr 6 0 0)],[(6,.obj (.mit N3 x.2)),(4,.obj (.mp x.1))]⟩) (fun x=>MapF (Jlu .i32) x.1∧∀ k v,(k,v)∈x.1 ↔ ∃ i∈x.2,N3[i]? = some (v,k)) (fun x=>Vg x.2 8) ([],[]) (St.le_slots (by simp only [Cd,Ck,Ac,Be,Aq,Nat.reduceEqDiff,reduceIte,Nat.reduceLT,Nat.reduceLeDiff];simp (disch:=omega) [Aq,A8,Cm,Aa] <;> (repeat' apply And.intro) <;> omega) (by simp (disch:=omega) [Dc,Ee,C9,Bj,Aq,A8,Cm,Aa]) (by simp [De])) ⟨MapF.nil,by simp⟩ ?_
 rintro ⟨es,seen⟩ ⟨h1,h2⟩
 simp only at h1 h2
 (refine Ax hm _ _ _ ?_;simp only [Cb,Ah,Bm,Br,Ce,Eh,Ab,Ci,B0,Bd,A1,Bc,Bf,A0,Ca,A9,Aj,Ek,Vl,Jph,Ja8,Jlo,Bl,Bq,G8,Eb,Ag,Ae,A3,Vo,Jp6,u_nxM,Jp5,u_enT,u_enM,Uy,Jsj,u_muT,Jsb,Jlr,u_mdT,u_mdR,O8,Mk,Aw,Cp,Ad,Ac,Dy,List.map_cons,List.map_nil,List.getElem?_cons_zero,List.getElem?_cons_succ,Nat.reduceLT,Nat.reduceEqDiff,true_and,Cc,↓reduceIte,Bool.false_eq_true,Bool.true_and,beq_self_eq_true,Q0,Jds])
 refine ⟨fun j p hj hns=>?_,fun hall=>?_⟩
 ·obtain ⟨h8,c,r,rfl⟩:=Yk hj
  refine ⟨_,hj,?_⟩
  obtain ⟨es',e1,g1,g2⟩:=Jqv (v:=.int .u8 c) (Jb6 .i32) (k:=.int .i32 r) ⟨_,rfl⟩ h1
  skip
  simp only [Bk,Bd,C1,Bo,Jn9,Mk,Cp,Dy,Nat.reduceEqDiff,true_and,↓reduceIte,Bool.true_and,beq_self_eq_true,e1]
  refine ⟨(es',seen ++ [j]),⟨g1,fun k v=>?_⟩,Jgc hns h8,(St.le_slots (by simp only [Cd,Ck,Ac,Be,Aq,Nat.reduceEqDiff,reduceIte,Nat.reduceLT,Nat.reduceLeDiff];simp (disch:=omega) [Aq,A8,Cm,Aa] <;> (repeat' apply And.intro) <;> omega) (by simp (disch:=omega) [Dc,Ee,C9,Bj,Aq,A8,Cm,Aa]) (by simp [De]))⟩
  rw [g2]
  constructor
  ·rintro (⟨rfl,rfl⟩ | ⟨_,hm⟩)
   ·exact ⟨j,by simp,hj⟩
   ·obtain ⟨i,hi,he⟩:=(h2 k v).1 hm
    exact ⟨i,by simp [hi],he⟩
  ·rintro ⟨i,hi,he⟩
   rw [List.mem_append,List.mem_singleton] at hi
   rcases hi with hi | rfl
   ·refine .inr ⟨fun hk=>?_,(h2 k v).2 ⟨i,hi,he⟩⟩
    subst hk
    have:=Jrk he hj
    subst this
    exact hns hi
   ·rw [hj] at he
    have:=Prod.mk.inj (Option.some.inj he)
    exact .inl ⟨this.2.symm,this.1.symm⟩
 ·obtain ⟨es',e1,g1,g2⟩:=Jqg (Jb6 .i32) (k:=.int .i32 47) ⟨_,rfl⟩ h1
  skip
  simp only [Ah,Bm,Cn,Ab,Bd,A1,Bc,C1,Bf,A9,Aj,Bo,Ag,Ae,Xh,Fu,Jaz,F4,Jn9,Bs,Cs,Cr,A6,A7,B9,Av,Ap,Al,B7,B5,Af,Am,Ao,Co,Ay,Aw,Cp,Dx,Dk,Jjx,I9,Jx,Kh,Jd1,A2,Ad,Ac,C6,Bg,Bb,List.map_cons,List.map_nil,Nat.reduceLT,Nat.reduceEqDiff,true_and,↓reduceIte,L.p.injEq,Bool.true_and,e1,e1]
  refine ⟨es',rfl,fun r=>?_⟩
  have inn:∀ (i:Nat) (c r:Int),N3[i]? = some (.int .u8 c,.int .i32 r)→r≠47→∃ j,K2 (.int .i32 r) es' 0=some (some (j,.int .u8 c)):=fun i c r hi hr =>
   Jsc (Jb6 .i32) g1 ((g2 _ _).2 ⟨fun e=>hr (by injection e),(h2 _ _).2 ⟨i,hall i (List.getElem?_eq_some_iff.1 hi).1,hi⟩⟩)
  unfold letR
  by_cases c1:r=34
  ·subst c1;obtain ⟨j,hj⟩:=inn 0 34 34 rfl (by decide);exact .inr ⟨j,34,rfl,by decide,hj⟩
  by_cases c2:r=92
  ·subst c2;obtain ⟨j,hj⟩:=inn 1 92 92 rfl (by decide);exact .inr ⟨j,92,rfl,by decide,hj⟩
  by_cases c3:r=8
  ·subst c3;obtain ⟨j,hj⟩:=inn 3 98 8 rfl (by decide);exact .inr ⟨j,98,rfl,by decide,hj⟩
  by_cases c4:r=12
  ·subst c4;obtain ⟨j,hj⟩:=inn 4 102 12 rfl (by decide);exact .inr ⟨j,102,rfl,by decide,hj⟩
  by_cases c5:r=10
  ·subst c5;obtain ⟨j,hj⟩:=inn 5 110 10 rfl (by decide);exact .inr ⟨j,110,rfl,by decide,hj⟩
  by_cases c6:r=13
  ·subst c6;obtain ⟨j,hj⟩:=inn 6 114 13 rfl (by decide);exact .inr ⟨j,114,rfl,by decide,hj⟩
  by_cases c7:r=9
  ·subst c7;obtain ⟨j,hj⟩:=inn 7 116 9 rfl (by decide);exact .inr ⟨j,116,rfl,by decide,hj⟩
  refine .inl ⟨by simp [*],Jqa (Jb6 .i32) ⟨_,rfl⟩ g1 fun v hv=>?_⟩
  obtain ⟨hne,hm⟩:=(g2 _ _).1 hv
  obtain ⟨i,_,hi⟩:=(h2 _ _).1 hm
  have h47:r≠47:=fun e=>hne (by rw [e])
  have:=Jm2 hi
  omega
end Go.LX
