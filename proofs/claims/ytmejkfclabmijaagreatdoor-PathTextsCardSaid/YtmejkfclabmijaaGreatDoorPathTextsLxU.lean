/- Paths: a field's step, a part's step. -/
import Derived.Test.YtmejkfclabmijaaGreatDoorPathTextsLxQ
import Derived.Test.YtmejkfclabmijaaGreatDoorPathTextsLxT
import Derived.Test.YtmejkfclabmijaaGreatDoorPathTextsLxD
set_option linter.unusedSimpArgs false
set_option linter.unusedVariables false
set_option linter.unusedSectionVars false
set_option linter.unnecessarySimpa false
set_option maxRecDepth 100000
set_option maxHeartbeats 2000000
namespace Go.LX
open Go Go.RowKit Go.Proofs
attribute [local irreducible] B2 SWP Hb
def J6:Step:=⟨false,[],0⟩
def Gz (s:List UInt8):Step×Nat :=
 if s.take 1=[46] then
  if 0<Kw (s.drop 1) then (⟨false,(s.drop 1).take (Kw (s.drop 1)),0⟩,Kw (s.drop 1)+1)
  else if (uq (s.drop 1)).2.2≠0∨isWd (uq (s.drop 1)).1∨refQ (uq (s.drop 1)).1≠(s.drop 1).take (uq (s.drop 1)).2.1 then (J6,0)
  else (⟨false,(uq (s.drop 1)).1,0⟩,(uq (s.drop 1)).2.1+1)
 else (J6,0)
theorem Jo7 {s:List UInt8} (h:(uq s).2.2=0):valid (uq s).1=true∧(uq s).1.length+2≤(uq s).2.1∧(refQ (uq s).1).length≤(uq s).2.1∧(uq s).2.1≤s.length :=
 Jk8 (s:=s) (x:=(uq s).1) (n:=(uq s).2.1) (by rw [← h])
theorem Jmq (s:List UInt8):valid (uq s).1=true∧(uq s).1.length≤s.length∧(uq s).2.1≤s.length:=by
 rcases Jpj s with h | ⟨h1,h2,h3⟩
 ·have:=Jo7 h.1
  exact ⟨this.1,by omega,by omega⟩
 ·rw [h2];exact ⟨rfl,Nat.zero_le _,h3⟩
theorem Jmc (s:List UInt8) (hs:s.length≤1000000) (h0:¬ s.take 1=[46]):Det cx 47 [.p (.str s)] [] (.tup [.agg J6.cells,.int .i64 0]) []:=by
 (refine B2.of_code (X:=cx) false [] (by simp) Tryz.func47 (by kernel_rfl) rfl (by simp only [List.length_cons,List.length_nil,Tryz.ntmps47];decide) (by simp) ?_;refine Ax hm _ _ _ ?_;simp only [Tryz.ntmps47,Tryz.results47,Ah,Bm,Ab,Bd,A1,Bc,Ct,Bf,A0,Ch,Ca,F6,A9,Aj,Hv,Cg,Bo,Gy,Hw,Cu,Ag,Ae,A3,Cf,Bv,Bi,Bz,Bx,A4,B6,Bh,Az,A5,B4,Ez,Cl,Ad,Ac,Bn,Bg,Bb,argW,List.map_cons,List.map_nil,List.append_nil,List.flatMap_cons,List.flatMap_nil,Nat.reduceLT,Nat.reduceEqDiff,true_and,Cc,Bw,↓reduceIte,reduceCtorEq,Bool.true_and,Jy])
 (repeat' (first | (refine iteI (fun h=>?_) (fun h=>?_))|(refine B1 (by first | omega | (simp (disch:=omega) only [Aa,Ak,Ai] at *;omega)) ?_;intro b hb)|(refine And.intro (by first | omega | (simp (disch:=omega) only [Aa,Ak,Ai] at *;omega)) ?_)|((first | (refine Ba hm (by rfl) (by kernel_rfl) ?_)|(refine Det.use (G4 s [46] hs (by simp)) ?_)|(refine Det.useQ (G4 s [46] hs (by simp)) ?_));simp only [Cb,Ah,Bm,Br,Cn,Ab,B3,Bd,A1,Bc,C1,Ct,Bf,A0,Ch,Ca,A9,Aj,N7,Fk,E7,Ka,Cg,Bo,Bq,J7,Jb,C5,F7,G1,Ev,D5,E2,H4,Gf,Jc,J9,Hr,E5,Iz,Fj,Ii,Ef,Ag,Ae,A3,Cf,Bv,Bi,Bz,Bx,A4,Bp,B6,Bh,Az,A5,Bs,Cs,Cr,A6,A7,Ij,B9,Av,Ap,Al,B7,B5,Af,Am,Ao,Gq,Cy,Ay,Aw,Cp,Cl,C7,El,Cz,F1,A2,Ad,Ac,List.map_cons,List.map_nil,List.length_cons,List.length_nil,List.nil_append,List.append_nil,List.flatMap_cons,List.flatMap_nil,List.take_succ_cons,List.take_zero,List.take_nil,List.drop_succ_cons,List.drop_zero,List.drop_nil,beq_eq_false_iff_ne,Bool.not_eq_eq_eq_not,ne_eq,not_false_eq_true,Nat.reduceLT,Nat.reduceLeDiff,Nat.reduceEqDiff,Nat.reduceAdd,Int.reduceToNat,Int.reduceLE,true_and,and_true,Cc,Bw,↓reduceIte,reduceCtorEq,Nat.zero_add,Bool.not_true,PV.agg.injEq,L.tup.injEq,List.cons.injEq,Bool.true_and,Bool.and_true,Hi,J0,Jm,L8,Jy])|(exact True.intro)|(exfalso;omega)))
 ·rfl
 ·exact absurd h0 (by assumption)
theorem Jij (s:List UInt8) (hs:s.length≤1000000) (h0:s.take 1=[46]) (h2:0<Kw (s.drop 1)):Det cx 47 [.p (.str s)] [] (.tup [.agg (Step.cells ⟨false,(s.drop 1).take (Kw (s.drop 1)),0⟩),.int .i64 (Kw (s.drop 1)+1:Nat)]) []:=by
 have h1:1≤s.length:=by cases s <;> simp at h0 ⊢
 have hw:=Sz (s.drop 1)
 rw [List.length_drop] at hw
 skip
 (refine B2.of_code (X:=cx) false [] (by simp) Tryz.func47 (by kernel_rfl) rfl (by simp only [List.length_cons,List.length_nil,Tryz.ntmps47];decide) (by simp) ?_;refine Ax hm _ _ _ ?_;simp only [Tryz.ntmps47,Tryz.results47,Ah,Bm,Ab,Bd,A1,Bc,Ct,Bf,A0,Ch,Ca,F6,A9,Aj,Hv,Cg,Bo,Gy,Hw,Cu,Ag,Ae,A3,Cf,Bv,Bi,Bz,Bx,A4,B6,Bh,Az,A5,B4,Ez,Cl,Ad,Ac,Bn,Bg,Bb,argW,List.map_cons,List.map_nil,List.append_nil,List.flatMap_cons,List.flatMap_nil,Nat.reduceLT,Nat.reduceEqDiff,true_and,Cc,Bw,↓reduceIte,reduceCtorEq,Bool.true_and,Jy,wi1 (i:=Kw (s.drop 1)) (by omega)])
 (repeat' (first | (refine iteI (fun h=>?_) (fun h=>?_))|(refine B1 (by first | omega | (simp (disch:=omega) only [Aa,Ak,Ai] at *;omega)) ?_;intro b hb)|(refine And.intro (by first | omega | (simp (disch:=omega) only [Aa,Ak,Ai] at *;omega)) ?_)|((first | (refine Ba hm (by rfl) (by kernel_rfl) ?_)|(refine Det.use (G4 s [46] hs (by simp)) ?_)|(refine Det.useQ (G4 s [46] hs (by simp)) ?_)|(refine Det.use (Jah (s.drop 1) (by simp;omega)) ?_)|(refine Det.useQ (Jah (s.drop 1) (by simp;omega)) ?_));simp only [Cb,Ah,Bm,Br,Cn,Ab,B3,Bd,A1,Bc,C1,Ct,Bf,A0,Ch,Ca,A9,Aj,B8,N7,Fk,E7,Ka,Cg,Bo,Bq,Au,Bt,Ar,E8,Je,J7,Jb,C5,F7,G1,Ev,D5,E2,H4,La,Gf,Jc,J9,Hr,Io,K6,E5,Iz,Fj,Ii,Ef,Ag,Ae,A3,Cf,Bv,Bi,Bz,Bx,A4,Bp,B6,Bh,Az,A5,Bs,Cs,Cr,A6,A7,Ij,B9,Av,Ap,Al,B7,B5,Af,Am,Ao,Gq,Cy,Ay,Aw,Cp,Cl,C7,El,Cz,F1,A2,Ad,Ac,List.map_cons,List.map_nil,List.length_cons,List.length_nil,List.nil_append,List.append_nil,List.flatMap_cons,List.flatMap_nil,List.take_succ_cons,List.take_zero,List.take_nil,List.drop_succ_cons,List.drop_zero,List.drop_nil,List.set_cons_zero,List.set_cons_succ,decide_eq_true_eq,ne_eq,not_false_eq_true,Nat.reduceLT,Nat.reduceLeDiff,Nat.reduceEqDiff,Nat.reduceAdd,Int.reduceToNat,Int.reduceLE,true_and,and_true,Cc,Bw,↓reduceIte,reduceCtorEq,Int.toNat_natCast,Nat.zero_add,Bool.not_true,PV.agg.injEq,L.tup.injEq,List.cons.injEq,Bool.false_eq_true,Bool.true_and,Bool.and_true,Bool.or_true,beq_self_eq_true,and_self,Hi,Kg,J0,Jm,Iq,L8,Jy,h0,wi1 (i:=Kw (s.drop 1)) (by omega)])|(exact True.intro)|(exfalso;omega)))
 rfl
theorem Ol (s:List UInt8) (hs:s.length≤1000000):Det cx 47 [.p (.str s)] [] (.tup [.agg (Gz s).1.cells,.int .i64 (Gz s).2]) []:=by
 by_cases h0:s.take 1=[46]
 ·have h1:1≤s.length:=by cases s <;> simp at h0 ⊢
  by_cases h2:0<Kw (s.drop 1)
  ·have e:Gz s=(⟨false,(s.drop 1).take (Kw (s.drop 1)),0⟩,Kw (s.drop 1)+1):=by unfold Gz;rw [if_pos h0,if_pos h2]
   rw [e]
   exact Jij s hs h0 h2
  ·obtain ⟨u1,u2,u3⟩:=Jmq (s.drop 1)
   rw [List.length_drop] at u2 u3
   have hw:Kw (s.drop 1)=0:=by omega
   have w1:IntKind.i64.wrap (1+((uq (s.drop 1)).2.1:Int))=(((uq (s.drop 1)).2.1+1:Nat):Int):=by rw [Int.add_comm];exact wi1 (by omega)
   have no:((uq (s.drop 1)).2.2≠0∨isWd (uq (s.drop 1)).1∨refQ (uq (s.drop 1)).1≠(s.drop 1).take (uq (s.drop 1)).2.1)→Gz s=(J6,0):=fun h=>by
    unfold Gz;rw [if_pos h0,if_neg h2,if_pos h]
   skip
   (refine B2.of_code (X:=cx) false [] (by simp) Tryz.func47 (by kernel_rfl) rfl (by simp only [List.length_cons,List.length_nil,Tryz.ntmps47];decide) (by simp) ?_;refine Ax hm _ _ _ ?_;simp only [Tryz.ntmps47,Tryz.results47,Ah,Bm,Ab,Bd,A1,Bc,Ct,Bf,A0,Ch,Ca,F6,A9,Aj,Hv,Cg,Bo,Gy,Hw,Cu,Ag,Ae,A3,Cf,Bv,Bi,Bz,Bx,A4,B6,Bh,Az,A5,B4,Ez,Cl,Ad,Ac,Bn,Bg,Bb,argW,List.map_cons,List.map_nil,List.append_nil,List.flatMap_cons,List.flatMap_nil,Nat.reduceLT,Nat.reduceEqDiff,true_and,Cc,Bw,↓reduceIte,reduceCtorEq,Bool.true_and,Jy,wi1 (i:=(uq (s.drop 1)).2.1) (by omega)])
   (repeat' (first | (refine iteI (fun h=>?_) (fun h=>?_))|(refine B1 (by first | omega | (simp (disch:=omega) only [Aa,Ak,Ai] at *;omega)) ?_;intro b hb)|(refine And.intro (by first | omega | (simp (disch:=omega) only [Aa,Ak,Ai] at *;omega)) ?_)|((first | (refine Ba hm (by rfl) (by kernel_rfl) ?_)|(refine Det.use (G4 s [46] hs (by simp)) ?_)|(refine Det.useQ (G4 s [46] hs (by simp)) ?_)|(refine Det.use (Jah (s.drop 1) (by simp;omega)) ?_)|(refine Det.useQ (Jah (s.drop 1) (by simp;omega)) ?_)|(refine Det.use (Jgg (s.drop 1) (by simp;omega)) ?_)|(refine Det.useQ (Jgg (s.drop 1) (by simp;omega)) ?_)|(refine Det.use (Oa (uq (s.drop 1)).1 (by omega)) ?_)|(refine Det.useQ (Oa (uq (s.drop 1)).1 (by omega)) ?_)|(refine Det.use (Wi (uq (s.drop 1)).1 (by omega) u1) ?_)|(refine Det.useQ (Wi (uq (s.drop 1)).1 (by omega) u1) ?_));simp only [Cb,Ah,Bm,Br,Cn,Ab,B3,Bd,A1,Mv,Kf,M3,Jep,Bc,D9,C1,Ct,Bf,A0,Ch,Cw,Ca,A9,Aj,B8,N7,Fk,E7,Ek,Ka,Cg,Jn,M7,Pd,Pn,Ot,Bo,Bl,Ja,Bq,C2,Dq,D1,Dn,Au,Ep,Bt,Ar,E8,Kx,Je,Qv,J7,G8,Jb,C5,F7,G1,Ev,D5,E2,H4,La,Gf,Eb,Jc,J9,Hr,Io,K6,E5,Iz,Fj,Ii,Ef,Ag,Ae,A3,Cf,Bv,Bi,Bz,Bx,A4,Bp,B6,Et,Bh,Az,A5,Bs,Cs,Cr,A6,A7,Ij,B9,Av,Ap,Al,B7,B5,Af,Am,Ao,Gq,Cy,Ay,Aw,Cp,Cl,C7,El,Cz,F1,A2,Ad,Ac,List.map_cons,List.map_nil,List.getD_cons_zero,List.getD_cons_succ,List.length_cons,List.length_nil,List.nil_append,List.append_nil,List.flatMap_cons,List.flatMap_nil,List.take_succ_cons,List.take_zero,List.take_nil,List.drop_succ_cons,List.drop_zero,List.drop_nil,List.set_cons_zero,List.set_cons_succ,List.getElem?_cons_zero,List.getElem?_cons_succ,decide_eq_true_eq,bne_iff_ne,beq_eq_false_iff_ne,Bool.not_eq_eq_eq_not,ne_eq,not_false_eq_true,Nat.reduceLT,Nat.reduceLeDiff,Nat.reduceEqDiff,Nat.reduceAdd,Int.reduceToNat,Int.reduceLE,true_and,and_true,Cc,Bw,↓reduceIte,reduceCtorEq,Int.toNat_natCast,Nat.zero_add,Bool.not_true,PV.agg.injEq,PV.int.injEq,L.tup.injEq,List.cons.injEq,Bool.false_eq_true,Bool.true_and,Bool.and_true,Bool.or_false,Bool.or_true,beq_self_eq_true,and_self,Hi,Kg,J0,Jm,Iq,L8,Jy,h0,hw,w1,wi1 (i:=(uq (s.drop 1)).2.1) (by omega)])|(exact True.intro)|(exfalso;omega)))
   ·rw [no (.inl (by omega))];exact ⟨rfl,rfl⟩
   ·rw [no (.inr (.inl (by assumption)))];exact ⟨rfl,rfl⟩
   ·rw [no (.inr (.inr (by assumption)))];exact ⟨rfl,rfl⟩
   ·have e:Gz s=(⟨false,(uq (s.drop 1)).1,0⟩,(uq (s.drop 1)).2.1+1):=by
     unfold Gz
     rw [if_pos h0,if_neg h2,if_neg]
     rintro (h | h | h)
     ·omega
     ·contradiction
     ·exact absurd h (by assumption)
    rw [e];exact ⟨rfl,rfl⟩
 ·have e:Gz s=(J6,0):=by unfold Gz;rw [if_neg h0]
  rw [e]
  exact Jmc s hs h0
def eI (s:List UInt8):Int:=Lib.indexByte s (93:Int).toNat.toUInt8
def pT (s:List UInt8):List UInt8:=(s.drop 1).take ((eI s).toNat - 1)
theorem Jk7 {s:List UInt8} {e:Nat} (h:eI s=e):e<s.length:=by
 have:=(Lib.indexByte_some h).1
 exact (List.getElem?_eq_some_iff.1 this).1
def Iv (s:List UInt8):Step×Nat :=
 if s.take 1=[91]∧2≤eI s∧eI s≤8 then
  match Lib.atoiAll (pT s) with
  | .ok n=>if 0≤n∧n≤1000000∧Lib.itoa n=pT s then (⟨true,[],n⟩,(eI s).toNat+1) else (J6,0)
  | _=>(J6,0)
 else (J6,0)
theorem Rc (s:List UInt8):Det cx 111 [.p (.str s),.p (.int .u8 93)] [] (.p (.int .i64 (eI s))) []:=Qj s 93
theorem Jrq (s:List UInt8) (hs:s.length≤1000000) (h0:¬ (s.take 1=[91]∧2≤eI s∧eI s≤8)):Det cx 49 [.p (.str s)] [] (.tup [.agg J6.cells,.int .i64 0]) []:=by
 (refine B2.of_code (X:=cx) false [] (by simp) Tryz.func49 (by kernel_rfl) rfl (by simp only [List.length_cons,List.length_nil,Tryz.ntmps49];decide) (by simp) ?_;refine Ax hm _ _ _ ?_;simp only [Tryz.ntmps49,Tryz.results49,Ah,Bm,Ab,Bd,A1,Bc,Ct,Bf,A0,Ch,Ca,A9,Aj,Hv,Cg,Bo,Gy,Hw,Cu,Ag,Ae,A3,Cf,Bv,Bi,Bz,Bx,A4,B6,Bh,Az,A5,B4,Ez,Cl,Ad,Ac,Bn,Bg,Bb,argW,List.map_cons,List.map_nil,List.append_nil,List.flatMap_cons,List.flatMap_nil,Nat.reduceLT,Nat.reduceEqDiff,true_and,Cc,Bw,↓reduceIte,reduceCtorEq,Bool.true_and,Jy])
 (repeat' (first | (refine iteI (fun h=>?_) (fun h=>?_))|(refine B1 (by first | omega | (simp (disch:=omega) only [Aa,Ak,Ai] at *;omega)) ?_;intro b hb)|(refine And.intro (by first | omega | (simp (disch:=omega) only [Aa,Ak,Ai] at *;omega)) ?_)|((first | (refine Ba hm (by rfl) (by kernel_rfl) ?_)|(refine Det.use (Rc s) ?_)|(refine Det.useQ (Rc s) ?_)|(refine Det.use (G4 s [91] hs (by simp)) ?_)|(refine Det.useQ (G4 s [91] hs (by simp)) ?_));simp only [Cb,Ah,Bm,Br,Cn,Ab,B3,Bd,A1,Da,Bc,D9,C1,Ct,Bf,A0,Ch,Cw,Ca,F6,A9,Aj,B8,N7,D0,Fk,E7,Ka,Cg,Bo,Bq,C2,Dq,D1,Dn,Au,Bt,Ar,Dm,Je,J7,Jb,C5,F7,G1,D5,E2,La,Gf,Jc,J9,Hr,E5,Iz,Fj,Ii,Ef,Ag,Ae,A3,Cf,Bv,Bi,Bz,Bx,A4,Bp,B6,Bh,Az,A5,Bs,Cs,Cr,A6,A7,Ij,B9,Av,Ap,Al,B7,B5,Af,Am,Ao,Gq,Cy,Ay,Aw,Cp,Cl,C7,El,Cz,F1,A2,Ad,Ac,List.map_cons,List.map_nil,List.getD_cons_zero,List.getD_cons_succ,List.length_cons,List.length_nil,List.nil_append,List.append_nil,List.flatMap_cons,List.flatMap_nil,List.take_succ_cons,List.take_zero,List.take_nil,List.drop_succ_cons,List.drop_zero,List.drop_nil,decide_eq_true_eq,beq_eq_false_iff_ne,Bool.not_eq_eq_eq_not,ne_eq,not_false_eq_true,Nat.reduceLT,Nat.reduceLeDiff,Nat.reduceEqDiff,Nat.reduceAdd,Int.reduceToNat,Int.reduceLE,true_and,and_true,Cc,Bw,↓reduceIte,reduceCtorEq,Nat.zero_add,Bool.not_true,PV.agg.injEq,L.tup.injEq,List.cons.injEq,Bool.false_eq_true,Bool.true_and,Bool.and_true,Bool.or_true,Hi,J0,Jm,L8,Jy])|(exact True.intro)|(exfalso;omega)))
 ·rfl
 ·rfl
 ·rfl
 ·exact absurd ⟨Decidable.not_not.1 (by assumption),by omega,by omega⟩ h0
theorem Jcv (s:List UInt8) (hs:s.length≤1000000) (e:Nat) (he:eI s=e) (h0:s.take 1=[91]) (h1:2≤e) (h2:e≤8) (h3:∃ a,Jek ((s.drop 1).take (e - 1))=.tup [.int .i64 a,.ifc]):Det cx 49 [.p (.str s)] [] (.tup [.agg J6.cells,.int .i64 0]) []:=by
 obtain ⟨a,h3⟩:=h3
 have hl:=Jk7 he
 skip
 (refine B2.of_code (X:=cx) false [] (by simp) Tryz.func49 (by kernel_rfl) rfl (by simp only [List.length_cons,List.length_nil,Tryz.ntmps49];decide) (by simp) ?_;refine Ax hm _ _ _ ?_;simp only [Tryz.ntmps49,Tryz.results49,Ah,Bm,Ab,Bd,A1,Bc,Ct,Bf,A0,Ch,Ca,A9,Aj,Hv,Cg,Bo,Gy,Hw,Cu,Ag,Ae,A3,Cf,Bv,Bi,Bz,Bx,A4,B6,Bh,Az,A5,B4,Ez,Cl,Ad,Ac,Bn,Bg,Bb,argW,List.map_cons,List.map_nil,List.append_nil,List.flatMap_cons,List.flatMap_nil,Nat.reduceLT,Nat.reduceEqDiff,true_and,Cc,Bw,↓reduceIte,reduceCtorEq,Bool.true_and,Jy])
 (repeat' (first | (refine iteI (fun h=>?_) (fun h=>?_))|(refine B1 (by first | omega | (simp (disch:=omega) only [Aa,Ak,Ai] at *;omega)) ?_;intro b hb)|(refine And.intro (by first | omega | (simp (disch:=omega) only [Aa,Ak,Ai] at *;omega)) ?_)|((first | (refine Ba hm (by rfl) (by kernel_rfl) ?_)|(refine Det.use (Rc s) ?_)|(refine Det.useQ (Rc s) ?_)|(refine Det.use (G4 s [91] hs (by simp)) ?_)|(refine Det.useQ (G4 s [91] hs (by simp)) ?_)|(refine Det.use (Jjb ((s.drop 1).take (e - 1)) (by simp;omega)) ?_)|(refine Det.useQ (Jjb ((s.drop 1).take (e - 1)) (by simp;omega)) ?_));simp only [Cb,Ah,Bm,Br,Cn,Ab,B3,Bd,A1,Da,Mv,Kf,M3,Bc,D9,C1,Ct,Bf,A0,Ch,Cw,Ca,F6,Lf,A9,Aj,B8,N7,D0,Fk,E7,Ek,Ka,Cg,Jn,M7,Pd,Bo,Bl,Ja,Bq,C2,Dq,D1,Dn,Au,Xc,Jn4,Mf,Bt,Ar,Dm,Je,J7,G8,Jb,C5,F7,G1,D5,E2,La,Gf,Eb,Jc,J9,Hr,E5,Iz,Fj,Ii,Ef,Ag,Ae,A3,Cf,Bv,Bi,Bz,Bx,A4,Bp,B6,Et,Bh,Az,A5,Bs,Cs,Cr,A6,A7,Ij,B9,Av,Ap,Al,B7,B5,Af,Am,Ao,Gq,Cy,Ay,Aw,Cp,Cl,C7,El,Cz,F1,A2,Ad,Ac,List.map_cons,List.map_nil,List.getD_cons_zero,List.getD_cons_succ,List.length_cons,List.length_nil,List.nil_append,List.append_nil,List.flatMap_cons,List.flatMap_nil,List.take_succ_cons,List.take_zero,List.take_nil,List.drop_succ_cons,List.drop_zero,List.drop_nil,List.getElem?_cons_zero,List.getElem?_cons_succ,decide_eq_true_eq,ne_eq,not_false_eq_true,Nat.reduceLT,Nat.reduceLeDiff,Nat.reduceEqDiff,Nat.reduceAdd,Int.reduceToNat,Int.reduceLE,true_and,and_true,Cc,Bw,↓reduceIte,reduceCtorEq,Int.toNat_natCast,Nat.zero_add,Bool.not_true,Bool.not_false,PV.agg.injEq,L.tup.injEq,List.cons.injEq,Bool.false_eq_true,Bool.true_and,Bool.and_true,Bool.or_true,beq_self_eq_true,Hi,J0,Jm,L8,Jy,Xn,h0,he,h3])|(exact True.intro)|(exfalso;omega)))
 rfl
theorem Jq0 (s:List UInt8) (hs:s.length≤1000000) (e:Nat) (he:eI s=e) (h0:s.take 1=[91]) (h1:2≤e) (h2:e≤8) (n:Int) (hn:n≤9223372036854775807) (hn0:-9223372036854775808≤n) (h3:Jek ((s.drop 1).take (e - 1))=.tup [.int .i64 n,.nifc]):Det cx 49 [.p (.str s)] [] (.tup [.agg (if 0≤n∧n≤1000000∧Lib.itoa n=(s.drop 1).take (e - 1) then (⟨true,[],n⟩,e+1) else (J6,0):Step×Nat).1.cells,.int .i64 (if 0≤n∧n≤1000000∧Lib.itoa n=(s.drop 1).take (e - 1) then (⟨true,[],n⟩,e+1) else (J6,0):Step×Nat).2]) []:=by
 have hl:=Jk7 he
 skip
 (refine B2.of_code (X:=cx) false [] (by simp) Tryz.func49 (by kernel_rfl) rfl (by simp only [List.length_cons,List.length_nil,Tryz.ntmps49];decide) (by simp) ?_;refine Ax hm _ _ _ ?_;simp only [Tryz.ntmps49,Tryz.results49,Ah,Bm,Ab,Bd,A1,Bc,Ct,Bf,A0,Ch,Ca,A9,Aj,Hv,Cg,Bo,Gy,Hw,Cu,Ag,Ae,A3,Cf,Bv,Bi,Bz,Bx,A4,B6,Bh,Az,A5,B4,Ez,Cl,Ad,Ac,Bn,Bg,Bb,argW,List.map_cons,List.map_nil,List.append_nil,List.flatMap_cons,List.flatMap_nil,Nat.reduceLT,Nat.reduceEqDiff,true_and,Cc,Bw,↓reduceIte,reduceCtorEq,Bool.true_and,Jy,wi1 (i:=e) (by omega)])
 (repeat' (first | (refine iteI (fun h=>?_) (fun h=>?_))|(refine B1 (by first | omega | (simp (disch:=omega) only [Aa,Ak,Ai] at *;omega)) ?_;intro b hb)|(refine And.intro (by first | omega | (simp (disch:=omega) only [Aa,Ak,Ai] at *;omega)) ?_)|((first | (refine Ba hm (by rfl) (by kernel_rfl) ?_)|(refine Det.use (Rc s) ?_)|(refine Det.useQ (Rc s) ?_)|(refine Det.use (G4 s [91] hs (by simp)) ?_)|(refine Det.useQ (G4 s [91] hs (by simp)) ?_)|(refine Det.use (Jjb ((s.drop 1).take (e - 1)) (by simp;omega)) ?_)|(refine Det.useQ (Jjb ((s.drop 1).take (e - 1)) (by simp;omega)) ?_)|(refine Det.use (Jat n hn0 hn) ?_)|(refine Det.useQ (Jat n hn0 hn) ?_));simp only [Cb,Ah,Bm,Br,Cn,Ab,B3,Bd,A1,Da,Mv,Kf,M3,Jep,Bc,D9,C1,Ct,Bf,A0,Ch,Cw,Ca,F6,Lf,A9,Aj,B8,N7,D0,Fk,E7,Ek,Ka,Cg,Jn,M7,Pd,Pn,Ot,Bo,Bl,Ja,Bq,C2,Dq,D1,Dn,Au,Ep,Xc,Jht,Mf,Bt,Ar,E8,Dm,Je,Qv,J7,G8,Jb,C5,F7,G1,D5,E2,La,Gf,Eb,Jc,J9,Hr,Io,Qk,Mh,E5,Iz,Fj,Ii,Ef,Ag,Ae,A3,Cf,Bv,Bi,Bz,Bx,A4,Bp,B6,Et,Bh,Az,A5,Bs,Cs,Cr,A6,A7,Ij,B9,Av,Ap,Al,B7,B5,Af,Am,Ao,Gq,Cy,Ay,Aw,Cp,Cl,C7,El,Cz,F1,A2,Ad,Ac,List.map_cons,List.map_nil,List.getD_cons_zero,List.getD_cons_succ,List.length_cons,List.length_nil,List.nil_append,List.append_nil,List.flatMap_cons,List.flatMap_nil,List.take_succ_cons,List.take_zero,List.take_nil,List.drop_succ_cons,List.drop_zero,List.drop_nil,List.set_cons_zero,List.set_cons_succ,List.getElem?_cons_zero,List.getElem?_cons_succ,decide_eq_true_eq,beq_eq_false_iff_ne,Bool.not_eq_eq_eq_not,ne_eq,not_false_eq_true,Nat.reduceLT,Nat.reduceLeDiff,Nat.reduceEqDiff,Nat.reduceAdd,Int.reduceToNat,Int.reduceLE,true_and,and_true,Cc,Bw,↓reduceIte,reduceCtorEq,Int.toNat_natCast,Nat.zero_add,Bool.not_true,PV.agg.injEq,PV.int.injEq,L.tup.injEq,List.cons.injEq,Bool.false_eq_true,Bool.true_and,Bool.and_true,Bool.or_false,Bool.or_true,beq_self_eq_true,and_self,Mm,M1,Hi,J0,Jm,Jj,L6,L8,Jy,Xn,h0,he,h3,wi1 (i:=e) (by omega)])|(exact True.intro)|(exfalso;omega)))
 ·rw [if_neg (by omega)];exact ⟨rfl,rfl⟩
 ·rw [if_neg (fun h=>absurd h.2.2 (by assumption))];exact ⟨rfl,rfl⟩
 ·rw [if_neg (by omega)];exact ⟨rfl,rfl⟩
 ·rw [if_pos ⟨by omega,by omega,Decidable.not_not.1 (by assumption)⟩];exact ⟨rfl,rfl⟩
theorem Uz (s:List UInt8) (hs:s.length≤1000000):Det cx 49 [.p (.str s)] [] (.tup [.agg (Iv s).1.cells,.int .i64 (Iv s).2]) []:=by
 by_cases h:s.take 1=[91]∧2≤eI s∧eI s≤8
 ·obtain ⟨h0,h1,h2⟩:=h
  obtain ⟨e,he⟩:∃ e:Nat,eI s=e:=⟨(eI s).toNat,by omega⟩
  have hl:=Jk7 he
  have hT:pT s=(s.drop 1).take (e - 1):=by unfold pT;rw [he];rfl
  unfold Iv
  rw [if_pos ⟨h0,h1,h2⟩,hT,he]
  cases ha:Lib.atoiAll ((s.drop 1).take (e - 1)) with
  | ok n =>
   have hb:=Lib.atoiAll_bounds ha
   exact Jq0 s hs e he h0 (by omega) (by omega) n hb.2 hb.1 (by unfold Jek;rw [ha])
  | range=>exact Jcv s hs e he h0 (by omega) (by omega) ⟨_,by unfold Jek;rw [ha]⟩
  | _=>exact Jcv s hs e he h0 (by omega) (by omega) ⟨_,by unfold Jek;rw [ha]⟩
 ·unfold Iv
  rw [if_neg h]
  exact Jrq s hs h
end Go.LX
namespace Go.LX
open Go Go.RowKit Go.Proofs
def PLe (x y:PV):Prop:=x=y∨(x=.snil∧y=.sl [])
def psLe:List PV→List PV→Prop
 | [],[]=>True
 | x :: xs,y :: ys=>PLe x y∧psLe xs ys
 | _,_=>False
theorem PLe.refl (x:PV):PLe x x:=.inl rfl
theorem PLe.nil:PLe .snil (.sl []):=.inr ⟨rfl,rfl⟩
theorem PLe.rep {w:World} {Im:Nat→Prop} {v:Value} {x y:PV} (h:PLe x y) (hr:PRep w Im v x):PRep w Im v y:=by
 rcases h with rfl | ⟨rfl,rfl⟩
 ·exact hr
 ·cases hr;exact PRep.slNil
theorem Jhc:∀ {a b:List PV},psLe a b→a.length=b.length∧∀ (i:Nat) (y:PV),b[i]? = some y→∃ x,a[i]? = some x∧PLe x y
 | [],[],_=>⟨rfl,fun i l' h=>by simp at h⟩
 | x :: a,y :: b,h=>by
  obtain ⟨h1,h2⟩:=h
  obtain ⟨h3,h4⟩:=Jhc h2
  refine ⟨by simp [h3],fun i l' hl=>?_⟩
  cases i with
  | zero=>simp at hl;subst hl;exact ⟨x,rfl,h1⟩
  | succ i=>simp at hl;simpa using h4 i l' hl
 | [],_ :: _,h=>h.elim
 | _ :: _,[],h=>h.elim
def OLe (l l':L):Prop:=l=l'∨(∃ x y,l=.p x∧l'=.p y∧PLe x y)∨∃ a b,l=.tup a∧l'=.tup b∧psLe a b
theorem OLe.rep {β:Env} {w:World} {Im:Nat→Prop} {v:Value} {l l':L} (h:OLe l l') (hr:LRep β w Im v l):LRep β w Im v l':=by
 rcases h with rfl | ⟨x,y,rfl,rfl,h⟩ | ⟨a,b,rfl,rfl,h⟩
 ·exact hr
 ·exact h.rep hr
 ·obtain ⟨vs,h1,h2,h3⟩:=hr
  obtain ⟨g1,g2⟩:=Jhc h
  refine ⟨vs,h1,by rw [h2,g1],fun i x p hx hp=>?_⟩
  obtain ⟨q,hq,hle⟩:=g2 i p hp
  exact hle.rep (h3 i x q hx hq)
theorem B2.weak {X:Cx} {f:FuncId} {args:List L} {rs:Regs} {Post Post':L→Regs→Prop} (h:B2 X f args rs Post) (hp:∀ l q,Post l q→∃ l',OLe l l'∧Post' l' q):B2 X f args rs Post' :=
 ⟨h.1,fun β Im w vs hg hf=>(h.2 β Im w vs hg hf).mono fun _ _ ⟨v,l,rs',β',Im',he,hP,hr,hc⟩=>by
  obtain ⟨l',h1,h2⟩:=hp _ _ hP
  exact ⟨v,l',rs',β',Im',he,h2,h1.rep hr,hc⟩⟩
theorem Det.weak {X:Cx} {f:FuncId} {args:List L} {rs rs':Regs} {l':L} (h:B2 X f args rs fun m q=>OLe m l'∧q=rs'):Det X f args rs l' rs' :=
 h.weak fun l q ⟨h1,h2⟩=>⟨l',h1,rfl,h2⟩
theorem OLe.of_tup {a b:List PV} (h:psLe a b):OLe (.tup a) (.tup b):=.inr (.inr ⟨_,_,rfl,rfl,h⟩)
end Go.LX
