/- Paths: reading. -/
import Derived.Test.YtmejkfclabmijaaGreatDoorPathTextsLxU
set_option linter.unusedSimpArgs false
set_option linter.unusedVariables false
set_option linter.unusedSectionVars false
set_option linter.unnecessarySimpa false
set_option maxRecDepth 100000
set_option maxHeartbeats 2000000
namespace Go.LX
open Go Go.RowKit Go.Proofs
attribute [local irreducible] B2 SWP Hb
def I8 (s:List UInt8) (i:Nat):Step×Nat :=
 if (Gz (s.drop i)).2≠0 then Gz (s.drop i)
 else if i=0 then (if s.take 1=[46]∧(Iv (s.drop 1)).2≠0 then ((Iv (s.drop 1)).1,(Iv (s.drop 1)).2+1) else (J6,0))
 else Iv (s.drop i)
def Kd (s:List UInt8):Nat→Nat→List Step→List Step×Nat
 | 0,i,p=>(p,i)
 | f+1,i,p=>if i<s.length∧p.length<20∧(I8 s i).2≠0 then Kd s f (i+(I8 s i).2) (p ++ [(I8 s i).1]) else (p,i)
def N9 (s:List UInt8):List Step×Nat:=Kd s (s.length+1) 0 []
def Kp (s:List UInt8):List Step×Nat×Nat :=
 if s=[46] then ([],0,0)
 else if (N9 s).2<s.length∨(N9 s).1.length=0 then ([],(N9 s).2,1)
 else ((N9 s).1,0,0)
theorem Zw (s:List UInt8):(Gz s).2≤s.length:=by
 unfold Gz
 split
 ·rename_i h0
  have h1:1≤s.length:=by cases s <;> simp at h0 ⊢
  have hw:=Sz (s.drop 1)
  have hu:=(Jmq (s.drop 1)).2.2
  rw [List.length_drop] at hw hu
  split
  ·simp only;omega
  ·split <;> simp only <;> omega
 ·exact Nat.zero_le _
theorem Us (s:List UInt8):(Iv s).2≤s.length:=by
 unfold Iv
 split
 ·rename_i h
  obtain ⟨e,he⟩:∃ e:Nat,eI s=e:=⟨(eI s).toNat,by omega⟩
  have hl:=Jk7 he
  split
  ·split
   ·simp only;omega
   ·exact Nat.zero_le _
  ·exact Nat.zero_le _
 ·exact Nat.zero_le _
theorem Yz {s:List UInt8} {i:Nat} (h:i≤s.length):i+(I8 s i).2≤s.length:=by
 have h1:=Zw (s.drop i)
 have h2:=Us (s.drop i)
 have h3:=Us (s.drop 1)
 rw [List.length_drop] at h1 h2 h3
 unfold I8
 split
 ·omega
 ·split
  ·subst i
   split
   ·rename_i h0
    have h1:1≤s.length:=by have:=h0.1;cases s <;> simp at this ⊢
    simp only;omega
   ·simp only;omega
  ·omega
theorem Ow {s:List UInt8} {f i:Nat} {p:List Step} (h:¬ (i<s.length∧p.length<20∧(I8 s i).2≠0)):Kd s f i p=(p,i):=by
 cases f with
 | zero=>rfl
 | succ f=>rw [Kd,if_neg h]
theorem Wk (p q:List Step):Gm (p ++ q)=Gm p ++ Gm q:=by simp [Gm]
theorem Jn8 (s:List UInt8) (hs:s.length≤1000000):Det cx 16 [.p (.str s)] [] (.tup [.sl (Gm (Kp s).1),.int .i64 (Kp s).2.1,.int .i64 (Kp s).2.2]) []:=by
 refine Det.weak ?_
 by_cases hd:s=[46]
 ·subst hd
  (refine B2.of_code (X:=cx) false [] (by simp) Tryz.func16 (by kernel_rfl) rfl (by simp only [List.length_cons,List.length_nil,Tryz.ntmps16];decide) (by simp) ?_;refine Ax hm _ _ _ ?_;simp only [Tryz.ntmps16,Tryz.results16,Dh,Ah,Bm,Br,Cn,Ab,B3,Bd,A1,Bc,Bf,A0,Ca,F6,E4,A9,Aj,B8,Bq,Ep,Bt,Ar,Nh,Ag,Ae,A3,Bs,Cs,Cr,A6,A7,B9,Av,Ap,Al,B7,B5,Af,Am,Ao,Cy,Ay,A2,Ad,Ac,argW,List.map_cons,List.map_nil,Nat.reduceLT,Nat.reduceEqDiff,and_true,Cc,↓reduceIte,reduceCtorEq,Bool.and_true,Bool.or_true,beq_self_eq_true])
  (repeat' (first | (refine iteI (fun h=>?_) (fun h=>?_))|(refine B1 (by first | omega | (simp (disch:=omega) only [Aa,Ak,Ai] at *;omega)) ?_;intro b hb)|(refine And.intro (by first | omega | (simp (disch:=omega) only [Aa,Ak,Ai] at *;omega)) ?_)|((first | (refine Ba hm (by rfl) (by kernel_rfl) ?_));simp only [Dh])|(exact True.intro)|(exfalso;omega)))
  exact OLe.of_tup ⟨.nil,.refl _,.refl _,trivial⟩
 ·have hd':(s=[46])=False:=eq_false hd
  skip
  (refine B2.of_code (X:=cx) false [] (by simp) Tryz.func16 (by kernel_rfl) rfl (by simp only [List.length_cons,List.length_nil,Tryz.ntmps16];decide) (by simp) ?_;refine Ax hm _ _ _ ?_;simp only [Tryz.ntmps16,Tryz.results16,Dh,Cb,Ah,Bm,Br,Ce,He,Jof,Ab,Bd,A1,Bc,Bf,A0,Ca,F6,E4,A9,Aj,B8,Bq,Ep,Bt,Ar,Nh,Ad,Ac,argW,List.map_cons,List.map_nil,beq_iff_eq,Nat.reduceLT,Cc,↓reduceIte,reduceCtorEq,Bool.or_true,hd'])
  (repeat' (first | (refine iteI (fun h=>?_) (fun h=>?_))|(refine B1 (by first | omega | (simp (disch:=omega) only [Aa,Ak,Ai] at *;omega)) ?_;intro b hb)|(refine And.intro (by first | omega | (simp (disch:=omega) only [Aa,Ak,Ai] at *;omega)) ?_)|((first | (refine Ba hm (by rfl) (by kernel_rfl) ?_));simp only [Dh])|(exact True.intro)|(exfalso;omega)))
  refine SWP.of_le (St.le_nilOwn _ (i:=5) (d:=59) 47 3 (.inl (by decide)) rfl) ?_
  simp only [St.nilOwn,St.nilReg,Ct,B4,Ez,Ad,Bn,Bg,Bb]
  refine SWP.loop (fun x:Nat×Nat×List Step=>⟨Fp 74 [(0,.p (.str s)),(5,.own 59 0 x.2.2.length),(6,.p (.int .i64 x.1))],[(59,.row 47 3 (Gm x.2.2))]⟩) (fun x=>x.1≤s.length∧s.length+1≤x.1+x.2.1∧x.2.2.length≤20∧Kd s x.2.1 x.1 x.2.2=N9 s) (fun x=>s.length - x.1) (0,s.length+1,[]) (by rw [show Gm []=[] from rfl];exact (St.le_slots (by simp only [Cd,Ck,Ac,Be,Aq,Nat.reduceEqDiff,reduceIte,Nat.reduceLT,Nat.reduceLeDiff];simp (disch:=omega) [Aq,A8,Cm,Aa] <;> (repeat' apply And.intro) <;> omega) (by simp (disch:=omega) [Dc,Ee,C9,Bj,Aq,A8,Cm,Aa]) (by simp [De]))) ⟨Nat.zero_le _,by simp,by simp,rfl⟩ ?_
  rintro ⟨i,f,p⟩ ⟨h1,h2,h3,h4⟩
  simp only at h1 h2 h3 h4
  have hf:=Zw (s.drop i)
  have hp:=Us (s.drop i)
  rw [List.length_drop] at hf hp
  have wl (n:Nat) (hn:n≤3000000):IntKind.i64.wrap ((i:Int)+(n:Int))=((i+n:Nat):Int):=Aa (by omega) (by omega)
  have bad:Kd s f i p=(p,i)→(i<s.length∨p.length=0)→Kp s=([],i,1):=fun h h'=>by
   rw [h] at h4
   unfold Kp;rw [if_neg hd,← h4,if_pos h']
  have good:Kd s f i p=(p,i)→¬ (i<s.length∨p.length=0)→Kp s=(p,0,0):=fun h h'=>by
   rw [h] at h4
   unfold Kp;rw [if_neg hd,← h4,if_neg h']
  have htk:(Gm p).take p.length=Gm p:=List.take_of_length_le (by simp)
  by_cases hc:¬ (i<s.length∧p.length<20)
  ·have hst:Kd s f i p=(p,i):=Ow fun h=>hc ⟨h.1,h.2.1⟩
   skip
   (refine Ax hm _ _ _ ?_;simp only [Cb,Ah,Bm,Br,Ce,Eh,Cn,Ab,Ci,B3,B0,Bd,A1,Da,Bc,D9,Bf,A0,Ch,Cw,Ca,E4,A9,Aj,B8,D0,E7,Dw,Cg,Bq,C2,Dq,Db,D1,Dn,Au,Bt,Ar,G0,Dm,Ds,Dl,F3,Ev,D5,E2,H4,Gf,Ag,Ae,A3,E6,Fu,En,F4,Cf,Bv,Bi,Bz,Bx,A4,B6,Bh,Az,A5,Bs,Cs,Cr,A6,A7,B9,Av,Ap,Al,B7,B5,Af,Am,Ao,Cy,Ay,Aw,Dx,Dk,I9,Jx,G9,Cl,A2,Ad,Ac,C6,Bg,Bb,Dy,List.map_cons,List.map_nil,List.getD_cons_zero,List.getD_cons_succ,List.append_nil,List.flatMap_cons,List.flatMap_nil,List.drop_zero,decide_eq_true_eq,beq_iff_eq,Nat.reduceLT,Nat.reduceEqDiff,true_and,and_true,Cc,Bw,↓reduceIte,reduceCtorEq,Int.toNat_natCast,Int.natCast_nonneg,Nat.zero_add,Bool.false_eq_true,Bool.true_and,Bool.and_true,Bool.or_false,Bool.or_true,Hi,Ir,Dt,htk,Nat.le_refl])
   (repeat' (first | (refine iteI (fun h=>?_) (fun h=>?_))|(refine B1 (by first | omega | (simp (disch:=omega) only [Aa,Ak,Ai] at *;omega)) ?_;intro b hb)|(refine And.intro (by first | omega | (simp (disch:=omega) only [Aa,Ak,Ai] at *;omega)) ?_)|((first | (refine Ba hm (by rfl) (by kernel_rfl) ?_));simp only [Dh])|(exact True.intro)|(exfalso;omega)))
   ·rw [bad hst (by omega)];exact OLe.of_tup ⟨.nil,.refl _,.refl _,trivial⟩
   ·rw [bad hst (by omega)];exact OLe.of_tup ⟨.nil,.refl _,.refl _,trivial⟩
   ·rw [good hst (by omega)];exact .inl rfl
  ·have hc:=Decidable.not_not.1 hc
   have hdl:(s.drop i).length≤1000000:=by rw [List.length_drop];omega
   obtain ⟨g,rfl⟩:∃ g,f=g+1:=⟨f - 1,by omega⟩
   by_cases hfi:(Gz (s.drop i)).2≠0
   ·have hn:I8 s i=Gz (s.drop i):=by unfold I8;rw [if_pos hfi]
    have hel:Gm p ++ [(Gz (s.drop i)).1.cells]=Gm (p ++ [(Gz (s.drop i)).1]):=by rw [Wk];rfl
    rw [Kd,hn,if_pos ⟨hc.1,hc.2,hfi⟩] at h4
    have hw:=wl (Gz (s.drop i)).2 (by omega)
    have hel':Gm p ++ [[.bool (Gz (s.drop i)).1.part,.str (Gz (s.drop i)).1.name,.int .i64 (Gz (s.drop i)).1.n]]=Gm (p ++ [(Gz (s.drop i)).1]):=hel
    skip
    (refine Ax hm _ _ _ ?_;simp only [Cb,Ah,Bm,Br,Ce,Eh,Cn,Ab,Ci,B3,B0,Bd,A1,Da,Bc,D9,Bf,A0,Ch,Cw,Ca,E4,A9,Aj,B8,D0,E7,Dw,Cg,Bq,C2,Dq,Db,D1,Dn,Au,Bt,Ar,G0,Dm,Ds,Dl,F3,Ev,D5,E2,H4,Gf,Ag,Ae,A3,E6,Fu,En,F4,Cf,Bv,Bi,Bz,Bx,A4,B6,Bh,Az,A5,Bs,Cs,Cr,A6,A7,B9,Av,Ap,Al,B7,B5,Af,Am,Ao,Cy,Ay,Aw,Dx,Dk,I9,Jx,G9,Cl,A2,Ad,Ac,C6,Bg,Bb,Dy,List.map_cons,List.map_nil,List.getD_cons_zero,List.getD_cons_succ,List.append_nil,List.flatMap_cons,List.flatMap_nil,List.drop_zero,decide_eq_true_eq,beq_iff_eq,Nat.reduceLT,Nat.reduceEqDiff,true_and,and_true,Cc,Bw,↓reduceIte,reduceCtorEq,Int.toNat_natCast,Int.natCast_nonneg,Nat.zero_add,Bool.false_eq_true,Bool.true_and,Bool.and_true,Bool.or_false,Bool.or_true,Hi,Ir,Dt,htk,Nat.le_refl,Dt,htk,Nat.le_refl])
    (repeat' (first | (refine iteI (fun h=>?_) (fun h=>?_))|(refine B1 (by first | omega | (simp (disch:=omega) only [Aa,Ak,Ai] at *;omega)) ?_;intro b hb)|(refine And.intro (by first | omega | (simp (disch:=omega) only [Aa,Ak,Ai] at *;omega)) ?_)|((first | (refine Ba hm (by rfl) (by kernel_rfl) ?_)|(refine Det.use (Ol (s.drop i) hdl) ?_)|(refine Det.useQ (Ol (s.drop i) hdl) ?_));simp only [Cb,Ah,Bm,Br,Eh,Cn,Ab,Ci,B3,Bk,B0,Bd,A1,Da,Bc,D9,C1,Ct,Bf,A0,Ch,Cw,Ca,F6,E4,A9,Aj,B8,D0,Ed,Fk,E7,Ek,Dw,Hv,Df,F8,Cg,Bo,Bl,Bq,C2,Dq,Db,D1,Dn,Au,Bt,Ar,E8,G0,Dm,Je,Ds,Dl,F3,G8,Jb,C5,F7,G1,Ev,D5,E2,H4,Gf,Eb,Gy,Hw,Cu,G6,E5,Iz,Fj,Ii,Ef,Ag,Ae,A3,E6,Fu,En,F4,Cf,Bv,Bi,Bz,Bx,A4,Bp,B6,Et,Bh,Az,A5,Ht,Ji,Il,Dg,Jg,Gp,Gr,Gs,Gu,Hu,Ho,Hc,F5,G5,E1,Gg,Kz,F2,Jk,Bs,Cs,Cr,A6,A7,B9,Av,Ap,Al,B7,B5,Af,Am,Ao,Cy,Ay,Aw,B4,C4,Cp,Dx,Dk,Hy,Fy,Kn,Ez,G7,Ks,H8,Ga,I9,Jx,Kh,G9,Cl,C7,El,Cz,F1,A2,Ad,Ac,Bn,C6,Bg,Bb,Dy,List.map_cons,List.map_nil,List.getD_cons_zero,List.getD_cons_succ,List.length_cons,List.length_nil,List.nil_append,List.append_nil,List.flatMap_cons,List.flatMap_nil,List.take_succ_cons,List.take_zero,List.take_nil,List.drop_succ_cons,List.drop_zero,List.drop_nil,List.getElem?_cons_zero,List.getElem?_cons_succ,decide_eq_true_eq,beq_iff_eq,ne_eq,not_false_eq_true,Nat.reduceLT,Nat.reduceLeDiff,Nat.reduceEqDiff,Nat.reduceAdd,Nat.reduceMul,Int.reduceLT,true_and,and_true,Cc,Bw,↓reduceIte,reduceCtorEq,Nat.zero_add,Bool.false_eq_true,Bool.true_and,Bool.and_true,Bool.or_false,Bool.or_true,beq_self_eq_true,Hi,Ir,J8,J0,Jm,Jy,Wq,Dt,htk,Nat.le_refl,Dt,htk,Nat.le_refl,Step.cells,hel',hw])|(exact True.intro)|(exfalso;omega)))
    refine ⟨by simp,by omega,by omega,(i+(Gz (s.drop i)).2,g,p ++ [(Gz (s.drop i)).1]),⟨by simp only;omega,by simp only;omega,by simp only [List.length_append,List.length_singleton];omega,h4⟩,by simp only;omega,?_⟩
    simp only [List.length_append,List.length_singleton]
    exact (St.le_slots (by simp only [Cd,Ck,Ac,Be,Aq,Nat.reduceEqDiff,reduceIte,Nat.reduceLT,Nat.reduceLeDiff];simp (disch:=omega) [Aq,A8,Cm,Aa] <;> (repeat' apply And.intro) <;> omega) (by simp (disch:=omega) [Dc,Ee,C9,Bj,Aq,A8,Cm,Aa]) (by simp [De]))
   ·have hf0:(Gz (s.drop i)).2=0:=by omega
    have w01:IntKind.i64.wrap 1=1:=by decide
    rw [Kd] at h4
    by_cases hi:i=0
    ·have hi0:(i:Int)=0:=by omega
     have e0:s.drop i=s:=by rw [hi];rfl
     rw [e0] at hf0
     by_cases hdot:s.take 1=[46]
     ·have hd1:(s.drop 1).length≤1000000:=by rw [List.length_drop];omega
      have hp1:=Us (s.drop 1)
      have hs1:1≤s.length:=by cases s <;> simp at hdot ⊢
      rw [List.length_drop] at hp1
      by_cases hpz:(Iv (s.drop 1)).2=0
      ·have hn:(I8 s i).2=0:=by unfold I8;rw [if_neg hfi,if_pos hi,if_neg (fun h=>h.2 hpz)]
       have hst:Kd s (g+1) i p=(p,i):=Ow fun h=>h.2.2 hn
       have hel':=hi0
       have hw:=hpz
       skip
       (refine Ax hm _ _ _ ?_;simp only [Cb,Ah,Bm,Br,Ce,Eh,Cn,Ab,Ci,B3,B0,Bd,A1,Da,Bc,D9,Bf,A0,Ch,Cw,Ca,E4,A9,Aj,B8,D0,E7,Dw,Cg,Bq,C2,Dq,Db,D1,Dn,Au,Bt,Ar,G0,Dm,Ds,Dl,F3,Ev,D5,E2,H4,Gf,Ag,Ae,A3,E6,Fu,En,F4,Cf,Bv,Bi,Bz,Bx,A4,B6,Bh,Az,A5,Bs,Cs,Cr,A6,A7,B9,Av,Ap,Al,B7,B5,Af,Am,Ao,Cy,Ay,Aw,Dx,Dk,I9,Jx,G9,Cl,A2,Ad,Ac,C6,Bg,Bb,Dy,List.map_cons,List.map_nil,List.getD_cons_zero,List.getD_cons_succ,List.append_nil,List.flatMap_cons,List.flatMap_nil,List.drop_zero,decide_eq_true_eq,beq_iff_eq,Nat.reduceLT,Nat.reduceEqDiff,Int.reduceToNat,Int.reduceLE,true_and,and_true,Cc,Bw,↓reduceIte,reduceCtorEq,Int.natCast_nonneg,Nat.zero_add,Bool.false_eq_true,Bool.true_and,Bool.and_true,Bool.or_false,Bool.or_true,Hi,Ir,Dt,htk,Nat.le_refl,Dt,htk,Nat.le_refl,hel',Dt,htk,Nat.le_refl,hel'])
       (repeat' (first | (refine iteI (fun h=>?_) (fun h=>?_))|(refine B1 (by first | omega | (simp (disch:=omega) only [Aa,Ak,Ai] at *;omega)) ?_;intro b hb)|(refine And.intro (by first | omega | (simp (disch:=omega) only [Aa,Ak,Ai] at *;omega)) ?_)|((first | (refine Ba hm (by rfl) (by kernel_rfl) ?_)|(refine Det.use (Ol s hs) ?_)|(refine Det.useQ (Ol s hs) ?_)|(refine Det.use (G4 s [46] hs (by simp)) ?_)|(refine Det.useQ (G4 s [46] hs (by simp)) ?_)|(refine Det.use (Uz (s.drop 1) hd1) ?_)|(refine Det.useQ (Uz (s.drop 1) hd1) ?_));simp only [Cb,Ah,Bm,Br,Eh,Cn,Ab,Ci,B3,Bk,B0,Bd,A1,Da,Bc,D9,C1,Ct,Bf,A0,Ch,Cw,Ca,F6,E4,A9,Aj,B8,D0,Ed,Fk,E7,Ek,Dw,Hv,Df,F8,Cg,Bo,Bl,Bq,C2,Dq,Db,D1,Dn,Au,Bt,Ar,E8,G0,Dm,Je,Ds,Dl,F3,G8,Jb,C5,F7,G1,Ev,D5,E2,H4,Gf,Eb,Gy,Hw,Cu,G6,E5,Iz,Fj,Ii,Ef,Ag,Ae,A3,E6,Fu,En,F4,Cf,Bv,Bi,Bz,Bx,A4,Bp,B6,Et,Bh,Az,A5,Ht,Ji,Il,Dg,Jg,Gp,Gr,Gs,Gu,Hu,Ho,Hc,F5,G5,E1,Gg,Kz,F2,Jk,Bs,Cs,Cr,A6,A7,B9,Av,Ap,Al,B7,B5,Af,Am,Ao,Cy,Ay,Aw,B4,C4,Cp,Dx,Dk,Hy,Fy,Kn,Ez,G7,Ks,H8,Ga,I9,Jx,Kh,G9,Cl,C7,El,Cz,F1,A2,Ad,Ac,Bn,C6,Bg,Bb,Dy,List.map_cons,List.map_nil,List.getD_cons_zero,List.getD_cons_succ,List.length_cons,List.length_nil,List.nil_append,List.append_nil,List.flatMap_cons,List.flatMap_nil,List.take_succ_cons,List.take_zero,List.take_nil,List.drop_succ_cons,List.drop_zero,List.drop_nil,List.getElem?_cons_zero,List.getElem?_cons_succ,decide_eq_true_eq,beq_iff_eq,ne_eq,not_false_eq_true,Nat.reduceLT,Nat.reduceLeDiff,Nat.reduceEqDiff,Nat.reduceAdd,Nat.reduceMul,Int.reduceToNat,Int.reduceLT,Int.reduceLE,Int.reduceAdd,true_and,and_true,Cc,Bw,↓reduceIte,reduceCtorEq,Nat.zero_add,Bool.false_eq_true,Bool.true_and,Bool.and_true,Bool.or_false,Bool.or_true,beq_self_eq_true,Hi,Ir,J8,J0,Jm,Jy,Wq,Dt,htk,Nat.le_refl,Dt,htk,Nat.le_refl,Step.cells,hw,Dt,htk,Nat.le_refl,Step.cells,hw,hf0,hdot,w01])|(exact True.intro)|(exfalso;omega)))
       rw [bad hst (by omega),hi];exact OLe.of_tup ⟨.nil,.refl _,.refl _,trivial⟩
      ·have hn:I8 s i=((Iv (s.drop 1)).1,(Iv (s.drop 1)).2+1):=by unfold I8;rw [if_neg hfi,if_pos hi,if_pos ⟨hdot,hpz⟩]
       rw [hn,if_pos ⟨hc.1,hc.2,Nat.succ_ne_zero _⟩] at h4
       have hst:IntKind.i64.wrap (((Iv (s.drop 1)).2:Int)+1)=(((Iv (s.drop 1)).2+1:Nat):Int):=wi1 (by omega)
       have hel':Gm p ++ [[.bool (Iv (s.drop 1)).1.part,.str (Iv (s.drop 1)).1.name,.int .i64 (Iv (s.drop 1)).1.n]]=Gm (p ++ [(Iv (s.drop 1)).1]):=by rw [Wk];rfl
       have hw:=hi0
       (refine Ax hm _ _ _ ?_;simp only [Cb,Ah,Bm,Br,Ce,Eh,Cn,Ab,Ci,B3,B0,Bd,A1,Da,Bc,D9,Bf,A0,Ch,Cw,Ca,E4,A9,Aj,B8,D0,E7,Dw,Cg,Bq,C2,Dq,Db,D1,Dn,Au,Bt,Ar,G0,Dm,Ds,Dl,F3,Ev,D5,E2,H4,Gf,Ag,Ae,A3,E6,Fu,En,F4,Cf,Bv,Bi,Bz,Bx,A4,B6,Bh,Az,A5,Bs,Cs,Cr,A6,A7,B9,Av,Ap,Al,B7,B5,Af,Am,Ao,Cy,Ay,Aw,Dx,Dk,I9,Jx,G9,Cl,A2,Ad,Ac,C6,Bg,Bb,Dy,List.map_cons,List.map_nil,List.getD_cons_zero,List.getD_cons_succ,List.append_nil,List.flatMap_cons,List.flatMap_nil,List.drop_zero,decide_eq_true_eq,beq_iff_eq,Nat.reduceLT,Nat.reduceEqDiff,Int.reduceToNat,Int.reduceLE,true_and,and_true,Cc,Bw,↓reduceIte,reduceCtorEq,Int.natCast_nonneg,Nat.zero_add,Bool.false_eq_true,Bool.true_and,Bool.and_true,Bool.or_false,Bool.or_true,Hi,Ir,Dt,htk,Nat.le_refl,Dt,htk,Nat.le_refl,hw,Dt,htk,Nat.le_refl,hw])
       (repeat' (first | (refine iteI (fun h=>?_) (fun h=>?_))|(refine B1 (by first | omega | (simp (disch:=omega) only [Aa,Ak,Ai] at *;omega)) ?_;intro b hb)|(refine And.intro (by first | omega | (simp (disch:=omega) only [Aa,Ak,Ai] at *;omega)) ?_)|((first | (refine Ba hm (by rfl) (by kernel_rfl) ?_)|(refine Det.use (Ol s hs) ?_)|(refine Det.useQ (Ol s hs) ?_)|(refine Det.use (G4 s [46] hs (by simp)) ?_)|(refine Det.useQ (G4 s [46] hs (by simp)) ?_)|(refine Det.use (Uz (s.drop 1) hd1) ?_)|(refine Det.useQ (Uz (s.drop 1) hd1) ?_));simp only [Cb,Ah,Bm,Br,Eh,Cn,Ab,Ci,B3,Bk,B0,Bd,A1,Da,Bc,D9,C1,Ct,Bf,A0,Ch,Cw,Ca,F6,E4,A9,Aj,B8,D0,Ed,Fk,E7,Ek,Dw,Hv,Df,F8,Cg,Bo,Bl,Bq,C2,Dq,Db,D1,Dn,Au,Bt,Ar,E8,G0,Dm,Je,Ds,Dl,F3,G8,Jb,C5,F7,G1,Ev,D5,E2,H4,Gf,Eb,Gy,Hw,Cu,G6,E5,Iz,Fj,Ii,Ef,Ag,Ae,A3,E6,Fu,En,F4,Cf,Bv,Bi,Bz,Bx,A4,Bp,B6,Et,Bh,Az,A5,Ht,Ji,Il,Dg,Jg,Gp,Gr,Gs,Gu,Hu,Ho,Hc,F5,G5,E1,Gg,Kz,F2,Jk,Bs,Cs,Cr,A6,A7,B9,Av,Ap,Al,B7,B5,Af,Am,Ao,Cy,Ay,Aw,B4,C4,Cp,Dx,Dk,Hy,Fy,Kn,Ez,G7,Ks,H8,Ga,I9,Jx,Kh,G9,Cl,C7,El,Cz,F1,A2,Ad,Ac,Bn,C6,Bg,Bb,Dy,List.map_cons,List.map_nil,List.getD_cons_zero,List.getD_cons_succ,List.length_cons,List.length_nil,List.nil_append,List.append_nil,List.flatMap_cons,List.flatMap_nil,List.take_succ_cons,List.take_zero,List.take_nil,List.drop_succ_cons,List.drop_zero,List.drop_nil,List.getElem?_cons_zero,List.getElem?_cons_succ,decide_eq_true_eq,beq_iff_eq,ne_eq,not_false_eq_true,Nat.reduceLT,Nat.reduceLeDiff,Nat.reduceEqDiff,Nat.reduceAdd,Nat.reduceMul,Int.reduceToNat,Int.reduceLT,Int.reduceLE,Int.reduceAdd,true_and,and_true,Cc,Bw,↓reduceIte,reduceCtorEq,Nat.zero_add,Bool.false_eq_true,Bool.true_and,Bool.and_true,Bool.or_false,Bool.or_true,beq_self_eq_true,Hi,Ir,J8,J0,Jm,Jy,Wq,Dt,htk,Nat.le_refl,Dt,htk,Nat.le_refl,Step.cells,hel',Dt,htk,Nat.le_refl,Step.cells,hel',hf0,hdot,w01,hst])|(exact True.intro)|(exfalso;omega)))
       refine ⟨by simp,by omega,by omega,(i+((Iv (s.drop 1)).2+1),g,p ++ [(Iv (s.drop 1)).1]),⟨by simp only;omega,by simp only;omega,by simp only [List.length_append,List.length_singleton];omega,h4⟩,by simp only;omega,?_⟩
       simp only [List.length_append,List.length_singleton]
       rw [hi]
       generalize Iv (s.drop 1)=P at *
       exact (St.le_slots (by simp only [Cd,Ck,Ac,Be,Aq,Nat.reduceEqDiff,reduceIte,Nat.reduceLT,Nat.reduceLeDiff];simp (disch:=omega) [Aq,A8,Cm,Aa] <;> (repeat' apply And.intro) <;> omega) (by simp (disch:=omega) [Dc,Ee,C9,Bj,Aq,A8,Cm,Aa]) (by simp [De]))
     ·have hn:(I8 s i).2=0:=by unfold I8;rw [if_neg hfi,if_pos hi,if_neg (fun h=>hdot h.1)]
      have hst:Kd s (g+1) i p=(p,i):=Ow fun h=>h.2.2 hn
      have hel':=hi0
      have hw:=hdot
      (refine Ax hm _ _ _ ?_;simp only [Cb,Ah,Bm,Br,Ce,Eh,Cn,Ab,Ci,B3,B0,Bd,A1,Da,Bc,D9,Bf,A0,Ch,Cw,Ca,E4,A9,Aj,B8,D0,E7,Dw,Cg,Bq,C2,Dq,Db,D1,Dn,Au,Bt,Ar,G0,Dm,Ds,Dl,F3,Ev,D5,E2,H4,Gf,Ag,Ae,A3,E6,Fu,En,F4,Cf,Bv,Bi,Bz,Bx,A4,B6,Bh,Az,A5,Bs,Cs,Cr,A6,A7,B9,Av,Ap,Al,B7,B5,Af,Am,Ao,Cy,Ay,Aw,Dx,Dk,I9,Jx,G9,Cl,A2,Ad,Ac,C6,Bg,Bb,Dy,List.map_cons,List.map_nil,List.getD_cons_zero,List.getD_cons_succ,List.append_nil,List.flatMap_cons,List.flatMap_nil,List.drop_zero,decide_eq_true_eq,beq_iff_eq,Nat.reduceLT,Nat.reduceEqDiff,Int.reduceToNat,Int.reduceLE,true_and,and_true,Cc,Bw,↓reduceIte,reduceCtorEq,Int.natCast_nonneg,Nat.zero_add,Bool.false_eq_true,Bool.true_and,Bool.and_true,Bool.or_false,Bool.or_true,Hi,Ir,Dt,htk,Nat.le_refl,Dt,htk,Nat.le_refl,hel',Dt,htk,Nat.le_refl,hel'])
      (repeat' (first | (refine iteI (fun h=>?_) (fun h=>?_))|(refine B1 (by first | omega | (simp (disch:=omega) only [Aa,Ak,Ai] at *;omega)) ?_;intro b hb)|(refine And.intro (by first | omega | (simp (disch:=omega) only [Aa,Ak,Ai] at *;omega)) ?_)|((first | (refine Ba hm (by rfl) (by kernel_rfl) ?_)|(refine Det.use (Ol s hs) ?_)|(refine Det.useQ (Ol s hs) ?_)|(refine Det.use (G4 s [46] hs (by simp)) ?_)|(refine Det.useQ (G4 s [46] hs (by simp)) ?_));simp only [Cb,Ah,Bm,Br,Eh,Cn,Ab,Ci,B3,Bk,B0,Bd,A1,Da,Bc,D9,C1,Ct,Bf,A0,Ch,Cw,Ca,F6,E4,A9,Aj,B8,D0,Ed,Fk,Ek,Dw,Hv,Df,F8,Cg,Bo,Bl,Bq,C2,Dq,Db,D1,Dn,Au,Bt,Ar,E8,G0,Dm,Je,Ds,Dl,F3,G8,Jb,C5,F7,G1,Eb,Gy,Hw,Cu,G6,E5,Iz,Fj,Ii,Ef,Ag,Ae,A3,E6,Fu,En,F4,Cf,Bv,Bi,Bz,Bx,A4,Bp,B6,Et,Bh,Az,A5,Ht,Ji,Il,Dg,Jg,Gp,Gr,Gs,Gu,Hu,Ho,Hc,F5,G5,E1,Gg,Kz,F2,Jk,Bs,Cs,Cr,A6,A7,B9,Av,Ap,Al,B7,B5,Af,Am,Ao,Cy,Ay,Aw,B4,C4,Cp,Dx,Dk,Hy,Fy,Kn,Ez,G7,Ks,H8,Ga,I9,Jx,Kh,G9,Cl,C7,El,Cz,F1,A2,Ad,Ac,Bn,C6,Bg,Bb,Dy,List.map_cons,List.map_nil,List.getD_cons_zero,List.getD_cons_succ,List.length_cons,List.length_nil,List.nil_append,List.append_nil,List.flatMap_cons,List.flatMap_nil,List.take_succ_cons,List.take_zero,List.take_nil,List.drop_succ_cons,List.drop_zero,List.drop_nil,List.getElem?_cons_zero,List.getElem?_cons_succ,decide_eq_true_eq,beq_iff_eq,ne_eq,not_false_eq_true,Nat.reduceLT,Nat.reduceLeDiff,Nat.reduceEqDiff,Nat.reduceAdd,Nat.reduceMul,Int.reduceLT,true_and,and_true,Cc,Bw,↓reduceIte,reduceCtorEq,Nat.zero_add,Bool.false_eq_true,Bool.true_and,Bool.and_true,Bool.or_false,Bool.or_true,beq_self_eq_true,Hi,Ir,J8,J0,Jm,Jy,Wq,Dt,htk,Nat.le_refl,Dt,htk,Nat.le_refl,Step.cells,hw,Dt,htk,Nat.le_refl,Step.cells,hw,hf0])|(exact True.intro)|(exfalso;omega)))
      rw [bad hst (by omega),hi];exact OLe.of_tup ⟨.nil,.refl _,.refl _,trivial⟩
    ·by_cases hpz:(Iv (s.drop i)).2=0
     ·have hn:(I8 s i).2=0:=by unfold I8;rw [if_neg hfi,if_neg hi,hpz]
      have hst:Kd s (g+1) i p=(p,i):=Ow fun h=>h.2.2 hn
      have hel':=hpz
      have hw:IntKind.i64.wrap ((i:Int)+0)=(i:Int):=by rw [Int.add_zero];exact Aa (by omega) (by omega)
      have hdot:=hi
      (refine Ax hm _ _ _ ?_;simp only [Cb,Ah,Bm,Br,Ce,Eh,Cn,Ab,Ci,B3,B0,Bd,A1,Da,Bc,D9,Bf,A0,Ch,Cw,Ca,E4,A9,Aj,B8,D0,E7,Dw,Cg,Bq,C2,Dq,Db,D1,Dn,Au,Bt,Ar,G0,Dm,Ds,Dl,F3,Ev,D5,E2,H4,Gf,Ag,Ae,A3,E6,Fu,En,F4,Cf,Bv,Bi,Bz,Bx,A4,B6,Bh,Az,A5,Bs,Cs,Cr,A6,A7,B9,Av,Ap,Al,B7,B5,Af,Am,Ao,Cy,Ay,Aw,Dx,Dk,I9,Jx,G9,Cl,A2,Ad,Ac,C6,Bg,Bb,Dy,List.map_cons,List.map_nil,List.getD_cons_zero,List.getD_cons_succ,List.append_nil,List.flatMap_cons,List.flatMap_nil,List.drop_zero,decide_eq_true_eq,beq_iff_eq,Nat.reduceLT,Nat.reduceEqDiff,true_and,and_true,Cc,Bw,↓reduceIte,reduceCtorEq,Int.toNat_natCast,Int.natCast_nonneg,Nat.zero_add,Bool.false_eq_true,Bool.true_and,Bool.and_true,Bool.or_false,Bool.or_true,Hi,Ir,Dt,htk,Nat.le_refl,Dt,htk,Nat.le_refl,Dt,htk,Nat.le_refl])
      (repeat' (first | (refine iteI (fun h=>?_) (fun h=>?_))|(refine B1 (by first | omega | (simp (disch:=omega) only [Aa,Ak,Ai] at *;omega)) ?_;intro b hb)|(refine And.intro (by first | omega | (simp (disch:=omega) only [Aa,Ak,Ai] at *;omega)) ?_)|((first | (refine Ba hm (by rfl) (by kernel_rfl) ?_)|(refine Det.use (Ol (s.drop i) hdl) ?_)|(refine Det.useQ (Ol (s.drop i) hdl) ?_)|(refine Det.use (Uz (s.drop i) hdl) ?_)|(refine Det.useQ (Uz (s.drop i) hdl) ?_));simp only [Cb,Ah,Bm,Br,Eh,Cn,Ab,Ci,B3,Bk,B0,Bd,A1,Da,Bc,D9,C1,Ct,Bf,A0,Ch,Cw,Ca,F6,E4,A9,Aj,B8,D0,Ed,Fk,E7,Ek,Dw,Hv,Df,F8,Cg,Bo,Bl,Bq,C2,Dq,Db,D1,Dn,Au,Bt,Ar,E8,G0,Dm,Je,Ds,Dl,F3,G8,Jb,C5,F7,G1,Ev,D5,E2,H4,Gf,Eb,Gy,Hw,Cu,G6,E5,Iz,Fj,Ii,Ef,Ag,Ae,A3,E6,Fu,En,F4,Cf,Bv,Bi,Bz,Bx,A4,Bp,B6,Et,Bh,Az,A5,Ht,Ji,Il,Dg,Jg,Gp,Gr,Gs,Gu,Hu,Ho,Hc,F5,G5,E1,Gg,Kz,F2,Jk,Bs,Cs,Cr,A6,A7,B9,Av,Ap,Al,B7,B5,Af,Am,Ao,Cy,Ay,Aw,B4,C4,Cp,Dx,Dk,Hy,Fy,Kn,Ez,G7,Ks,H8,Ga,I9,Jx,Kh,G9,Cl,C7,El,Cz,F1,A2,Ad,Ac,Bn,C6,Bg,Bb,Dy,List.map_cons,List.map_nil,List.getD_cons_zero,List.getD_cons_succ,List.length_cons,List.length_nil,List.nil_append,List.append_nil,List.flatMap_cons,List.flatMap_nil,List.take_succ_cons,List.take_zero,List.take_nil,List.drop_succ_cons,List.drop_zero,List.drop_nil,List.getElem?_cons_zero,List.getElem?_cons_succ,decide_eq_true_eq,beq_iff_eq,ne_eq,not_false_eq_true,Nat.reduceLT,Nat.reduceLeDiff,Nat.reduceEqDiff,Nat.reduceAdd,Nat.reduceMul,Int.reduceLT,true_and,and_true,Cc,Bw,↓reduceIte,reduceCtorEq,Int.toNat_natCast,Int.natCast_nonneg,Nat.zero_add,Bool.false_eq_true,Bool.true_and,Bool.and_true,Bool.or_false,Bool.or_true,beq_self_eq_true,Hi,Ir,J8,J0,Jm,Jy,Wq,Dt,htk,Nat.le_refl,Dt,htk,Nat.le_refl,Step.cells,hel',hw,Dt,htk,Nat.le_refl,Step.cells,hel',hw,hf0])|(exact True.intro)|(exfalso;omega)))
      rw [bad hst (by omega)];exact OLe.of_tup ⟨.nil,.refl _,.refl _,trivial⟩
     ·have hn:I8 s i=Iv (s.drop i):=by unfold I8;rw [if_neg hfi,if_neg hi]
      have hel':Gm p ++ [[.bool (Iv (s.drop i)).1.part,.str (Iv (s.drop i)).1.name,.int .i64 (Iv (s.drop i)).1.n]]=Gm (p ++ [(Iv (s.drop i)).1]):=by rw [Wk];rfl
      rw [hn,if_pos ⟨hc.1,hc.2,hpz⟩] at h4
      have hw:IntKind.i64.wrap ((i:Int)+0)=(i:Int):=by rw [Int.add_zero];exact Aa (by omega) (by omega)
      have hdot:=hi
      have hst:=wl (Iv (s.drop i)).2 (by omega)
      have w01:IntKind.i64.wrap (((Iv (s.drop i)).2:Int)+0)=((Iv (s.drop i)).2:Int):=by rw [Int.add_zero];exact Aa (by omega) (by omega)
      (refine Ax hm _ _ _ ?_;simp only [Cb,Ah,Bm,Br,Ce,Eh,Cn,Ab,Ci,B3,B0,Bd,A1,Da,Bc,D9,Bf,A0,Ch,Cw,Ca,E4,A9,Aj,B8,D0,E7,Dw,Cg,Bq,C2,Dq,Db,D1,Dn,Au,Bt,Ar,G0,Dm,Ds,Dl,F3,Ev,D5,E2,H4,Gf,Ag,Ae,A3,E6,Fu,En,F4,Cf,Bv,Bi,Bz,Bx,A4,B6,Bh,Az,A5,Bs,Cs,Cr,A6,A7,B9,Av,Ap,Al,B7,B5,Af,Am,Ao,Cy,Ay,Aw,Dx,Dk,I9,Jx,G9,Cl,A2,Ad,Ac,C6,Bg,Bb,Dy,List.map_cons,List.map_nil,List.getD_cons_zero,List.getD_cons_succ,List.append_nil,List.flatMap_cons,List.flatMap_nil,List.drop_zero,decide_eq_true_eq,beq_iff_eq,Nat.reduceLT,Nat.reduceEqDiff,true_and,and_true,Cc,Bw,↓reduceIte,reduceCtorEq,Int.toNat_natCast,Int.natCast_nonneg,Nat.zero_add,Bool.false_eq_true,Bool.true_and,Bool.and_true,Bool.or_false,Bool.or_true,Hi,Ir,Dt,htk,Nat.le_refl,Dt,htk,Nat.le_refl,Dt,htk,Nat.le_refl])
      (repeat' (first | (refine iteI (fun h=>?_) (fun h=>?_))|(refine B1 (by first | omega | (simp (disch:=omega) only [Aa,Ak,Ai] at *;omega)) ?_;intro b hb)|(refine And.intro (by first | omega | (simp (disch:=omega) only [Aa,Ak,Ai] at *;omega)) ?_)|((first | (refine Ba hm (by rfl) (by kernel_rfl) ?_)|(refine Det.use (Ol (s.drop i) hdl) ?_)|(refine Det.useQ (Ol (s.drop i) hdl) ?_)|(refine Det.use (Uz (s.drop i) hdl) ?_)|(refine Det.useQ (Uz (s.drop i) hdl) ?_));simp only [Cb,Ah,Bm,Br,Eh,Cn,Ab,Ci,B3,Bk,B0,Bd,A1,Da,Bc,D9,C1,Ct,Bf,A0,Ch,Cw,Ca,F6,E4,A9,Aj,B8,D0,Ed,Fk,E7,Ek,Dw,Hv,Df,F8,Cg,Bo,Bl,Bq,C2,Dq,Db,D1,Dn,Au,Bt,Ar,E8,G0,Dm,Je,Ds,Dl,F3,G8,Jb,C5,F7,G1,Ev,D5,E2,H4,Gf,Eb,Gy,Hw,Cu,G6,E5,Iz,Fj,Ii,Ef,Ag,Ae,A3,E6,Fu,En,F4,Cf,Bv,Bi,Bz,Bx,A4,Bp,B6,Et,Bh,Az,A5,Ht,Ji,Il,Dg,Jg,Gp,Gr,Gs,Gu,Hu,Ho,Hc,F5,G5,E1,Gg,Kz,F2,Jk,Bs,Cs,Cr,A6,A7,B9,Av,Ap,Al,B7,B5,Af,Am,Ao,Cy,Ay,Aw,B4,C4,Cp,Dx,Dk,Hy,Fy,Kn,Ez,G7,Ks,H8,Ga,I9,Jx,Kh,G9,Cl,C7,El,Cz,F1,A2,Ad,Ac,Bn,C6,Bg,Bb,Dy,List.map_cons,List.map_nil,List.getD_cons_zero,List.getD_cons_succ,List.length_cons,List.length_nil,List.nil_append,List.append_nil,List.flatMap_cons,List.flatMap_nil,List.take_succ_cons,List.take_zero,List.take_nil,List.drop_succ_cons,List.drop_zero,List.drop_nil,List.getElem?_cons_zero,List.getElem?_cons_succ,decide_eq_true_eq,beq_iff_eq,ne_eq,not_false_eq_true,Nat.reduceLT,Nat.reduceLeDiff,Nat.reduceEqDiff,Nat.reduceAdd,Nat.reduceMul,Int.reduceLT,true_and,and_true,Cc,Bw,↓reduceIte,reduceCtorEq,Int.toNat_natCast,Int.natCast_nonneg,Nat.zero_add,Bool.false_eq_true,Bool.true_and,Bool.and_true,Bool.or_false,Bool.or_true,beq_self_eq_true,Hi,Ir,J8,J0,Jm,Jy,Wq,Dt,htk,Nat.le_refl,Dt,htk,Nat.le_refl,Step.cells,hel',hw,Dt,htk,Nat.le_refl,Step.cells,hel',hw,hf0,w01,hst])|(exact True.intro)|(exfalso;omega)))
      refine ⟨by simp,by omega,by omega,(i+((Iv (s.drop i)).2),g,p ++ [(Iv (s.drop i)).1]),⟨by simp only;omega,by simp only;omega,by simp only [List.length_append,List.length_singleton];omega,h4⟩,by simp only;omega,?_⟩
      simp only [List.length_append,List.length_singleton]
      exact (St.le_slots (by simp only [Cd,Ck,Ac,Be,Aq,Nat.reduceEqDiff,reduceIte,Nat.reduceLT,Nat.reduceLeDiff];simp (disch:=omega) [Aq,A8,Cm,Aa] <;> (repeat' apply And.intro) <;> omega) (by simp (disch:=omega) [Dc,Ee,C9,Bj,Aq,A8,Cm,Aa]) (by simp [De]))
end Go.LX
