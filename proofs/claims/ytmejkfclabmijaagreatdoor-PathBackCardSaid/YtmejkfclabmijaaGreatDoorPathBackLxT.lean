/- Paths: a field's step, a part's step. -/
import Derived.Test.YtmejkfclabmijaaGreatDoorPathBackLxQ
import Derived.Test.YtmejkfclabmijaaGreatDoorPathBackLxS
import Derived.Test.YtmejkfclabmijaaGreatDoorPathBackLxD
set_option linter.unusedSimpArgs false
set_option linter.unusedVariables false
set_option linter.unusedSectionVars false
set_option linter.unnecessarySimpa false
set_option maxRecDepth 100000
set_option maxHeartbeats 2000000
namespace Go.LX
open Go Go.RowKit Go.Proofs
attribute [local irreducible] Bz SWP Gm
def Mt:Step:=⟨false,[],0⟩
def Hn (s:List UInt8):Step×Nat :=
 if s.take 1=[46] then
  if 0<L7 (s.drop 1) then (⟨false,(s.drop 1).take (L7 (s.drop 1)),0⟩,L7 (s.drop 1)+1)
  else if (uq (s.drop 1)).2.2≠0∨isWd (uq (s.drop 1)).1∨refQ (uq (s.drop 1)).1≠(s.drop 1).take (uq (s.drop 1)).2.1 then (Mt,0)
  else (⟨false,(uq (s.drop 1)).1,0⟩,(uq (s.drop 1)).2.1+1)
 else (Mt,0)
theorem Jnk {s:List UInt8} (h:(uq s).2.2=0):valid (uq s).1=true∧(uq s).1.length+2≤(uq s).2.1∧(refQ (uq s).1).length≤(uq s).2.1∧(uq s).2.1≤s.length :=
 Jik (s:=s) (x:=(uq s).1) (n:=(uq s).2.1) (by rw [← h])
theorem Jqq (s:List UInt8):valid (uq s).1=true∧(uq s).1.length≤s.length∧(uq s).2.1≤s.length:=by
 rcases Jny s with h | ⟨h1,h2,h3⟩
 ·have:=Jnk h.1
  exact ⟨this.1,by omega,by omega⟩
 ·rw [h2];exact ⟨rfl,Nat.zero_le _,h3⟩
theorem Jlq (s:List UInt8) (hs:s.length≤1000000) (h0:¬ s.take 1=[46]):Det cx 47 [.p (.str s)] [] (.tup [.agg Mt.cells,.int .i64 0]) []:=by
 (refine Bz.of_code (X:=cx) false [] (by simp) Tryz.func47 (by kernel_rfl) rfl (by simp only [List.length_cons,List.length_nil,Tryz.ntmps47];decide) (by simp) ?_;refine Ax hm _ _ _ ?_;simp only [Tryz.ntmps47,Tryz.results47,Ah,Bn,Ab,Bd,A0,Bb,Cs,Be,Az,Ce,Cb,Hc,Ba,Ai,H2,Cc,Bp,G7,H5,Cr,Ag,Ae,A3,Cd,Bv,Bm,Bx,Bw,A5,B3,Bi,Ay,A4,B1,E6,Cj,Ad,Ac,Bl,Bf,A6,argW,List.map_cons,List.map_nil,List.append_nil,List.flatMap_cons,List.flatMap_nil,Nat.reduceLT,Nat.reduceEqDiff,true_and,Ca,Bu,↓reduceIte,reduceCtorEq,Bool.true_and,Lk])
 (repeat' (first | (refine iteI (fun h=>?_) (fun h=>?_))|(refine B2 (by first | omega | (simp (disch:=omega) only [Aa,Ak,Aj] at *;omega)) ?_;intro b hb)|(refine And.intro (by first | omega | (simp (disch:=omega) only [Aa,Ak,Aj] at *;omega)) ?_)|((first | (refine A9 hm (by rfl) (by kernel_rfl) ?_)|(refine Det.use (Gf s [46] hs (by simp)) ?_)|(refine Det.useQ (Gf s [46] hs (by simp)) ?_));simp only [Ch,Ah,Bn,Bs,Cn,Ab,Cf,Bd,A0,Bb,Dd,Cs,Be,Az,Ce,Cb,Ba,Ai,Oo,Gn,Ft,N0,Cc,Bp,Br,Jp,K7,C5,Iq,Jj,E9,Ef,Fn,Ij,Gy,L6,N1,Kd,Gj,Jw,Gl,Jc,Fj,Ag,Ae,A3,Cd,Bv,Bm,Bx,Bw,A5,Bq,B3,Bi,Ay,A4,Bt,Cy,Cz,A7,A8,L0,B9,Aw,Ao,Al,B5,B6,Af,Am,Ap,J1,De,A1,Ar,Cu,Cj,Ds,Fl,Db,Hf,A2,Ad,Ac,List.map_cons,List.map_nil,List.length_cons,List.length_nil,List.nil_append,List.append_nil,List.flatMap_cons,List.flatMap_nil,List.take_succ_cons,List.take_zero,List.take_nil,List.drop_succ_cons,List.drop_zero,List.drop_nil,beq_eq_false_iff_ne,Bool.not_eq_eq_eq_not,ne_eq,not_false_eq_true,Nat.reduceLT,Nat.reduceLeDiff,Nat.reduceEqDiff,Nat.reduceAdd,Int.reduceToNat,Int.reduceLE,true_and,and_true,Ca,Bu,↓reduceIte,reduceCtorEq,Nat.zero_add,Bool.not_true,PV.agg.injEq,L.tup.injEq,List.cons.injEq,Bool.true_and,Bool.and_true,Ja,Lm,Kk,Va,Lk])|(exact True.intro)|(exfalso;omega)))
 ·rfl
 ·exact absurd h0 (by assumption)
theorem Jh3 (s:List UInt8) (hs:s.length≤1000000) (h0:s.take 1=[46]) (h2:0<L7 (s.drop 1)):Det cx 47 [.p (.str s)] [] (.tup [.agg (Step.cells ⟨false,(s.drop 1).take (L7 (s.drop 1)),0⟩),.int .i64 (L7 (s.drop 1)+1:Nat)]) []:=by
 have h1:1≤s.length:=by cases s <;> simp at h0 ⊢
 have hw:=Xd (s.drop 1)
 rw [List.length_drop] at hw
 skip
 (refine Bz.of_code (X:=cx) false [] (by simp) Tryz.func47 (by kernel_rfl) rfl (by simp only [List.length_cons,List.length_nil,Tryz.ntmps47];decide) (by simp) ?_;refine Ax hm _ _ _ ?_;simp only [Tryz.ntmps47,Tryz.results47,Ah,Bn,Ab,Bd,A0,Bb,Cs,Be,Az,Ce,Cb,Hc,Ba,Ai,H2,Cc,Bp,G7,H5,Cr,Ag,Ae,A3,Cd,Bv,Bm,Bx,Bw,A5,B3,Bi,Ay,A4,B1,E6,Cj,Ad,Ac,Bl,Bf,A6,argW,List.map_cons,List.map_nil,List.append_nil,List.flatMap_cons,List.flatMap_nil,Nat.reduceLT,Nat.reduceEqDiff,true_and,Ca,Bu,↓reduceIte,reduceCtorEq,Bool.true_and,Lk,wi1 (i:=L7 (s.drop 1)) (by omega)])
 (repeat' (first | (refine iteI (fun h=>?_) (fun h=>?_))|(refine B2 (by first | omega | (simp (disch:=omega) only [Aa,Ak,Aj] at *;omega)) ?_;intro b hb)|(refine And.intro (by first | omega | (simp (disch:=omega) only [Aa,Ak,Aj] at *;omega)) ?_)|((first | (refine A9 hm (by rfl) (by kernel_rfl) ?_)|(refine Det.use (Gf s [46] hs (by simp)) ?_)|(refine Det.useQ (Gf s [46] hs (by simp)) ?_)|(refine Det.use (Yr (s.drop 1) (by simp;omega)) ?_)|(refine Det.useQ (Yr (s.drop 1) (by simp;omega)) ?_));simp only [Ch,Ah,Bn,Bs,Cn,Ab,Cf,Bd,A0,Bb,Dd,Cs,Be,Az,Ce,Cb,Ba,Ai,B8,Oo,Gn,Ft,N0,Cc,Bp,Br,Av,B0,Aq,Hb,Js,Jp,K7,C5,Iq,Jj,E9,Ef,Fn,Ij,Rw,Gy,L6,N1,Kd,Lh,Tf,Gj,Jw,Gl,Jc,Fj,Ag,Ae,A3,Cd,Bv,Bm,Bx,Bw,A5,Bq,B3,Bi,Ay,A4,Bt,Cy,Cz,A7,A8,L0,B9,Aw,Ao,Al,B5,B6,Af,Am,Ap,J1,De,A1,Ar,Cu,Cj,Ds,Fl,Db,Hf,A2,Ad,Ac,List.map_cons,List.map_nil,List.length_cons,List.length_nil,List.nil_append,List.append_nil,List.flatMap_cons,List.flatMap_nil,List.take_succ_cons,List.take_zero,List.take_nil,List.drop_succ_cons,List.drop_zero,List.drop_nil,List.set_cons_zero,List.set_cons_succ,decide_eq_true_eq,ne_eq,not_false_eq_true,Nat.reduceLT,Nat.reduceLeDiff,Nat.reduceEqDiff,Nat.reduceAdd,Int.reduceToNat,Int.reduceLE,true_and,and_true,Ca,Bu,↓reduceIte,reduceCtorEq,Int.toNat_natCast,Nat.zero_add,Bool.not_true,PV.agg.injEq,L.tup.injEq,List.cons.injEq,Bool.false_eq_true,Bool.true_and,Bool.and_true,Bool.or_true,beq_self_eq_true,and_self,Ja,Kw,Lm,Kk,J4,Va,Lk,h0,wi1 (i:=L7 (s.drop 1)) (by omega)])|(exact True.intro)|(exfalso;omega)))
 rfl
theorem Nx (s:List UInt8) (hs:s.length≤1000000):Det cx 47 [.p (.str s)] [] (.tup [.agg (Hn s).1.cells,.int .i64 (Hn s).2]) []:=by
 by_cases h0:s.take 1=[46]
 ·have h1:1≤s.length:=by cases s <;> simp at h0 ⊢
  by_cases h2:0<L7 (s.drop 1)
  ·have e:Hn s=(⟨false,(s.drop 1).take (L7 (s.drop 1)),0⟩,L7 (s.drop 1)+1):=by unfold Hn;rw [if_pos h0,if_pos h2]
   rw [e]
   exact Jh3 s hs h0 h2
  ·obtain ⟨u1,u2,u3⟩:=Jqq (s.drop 1)
   rw [List.length_drop] at u2 u3
   have hw:L7 (s.drop 1)=0:=by omega
   have w1:IntKind.i64.wrap (1+((uq (s.drop 1)).2.1:Int))=(((uq (s.drop 1)).2.1+1:Nat):Int):=by rw [Int.add_comm];exact wi1 (by omega)
   have no:((uq (s.drop 1)).2.2≠0∨isWd (uq (s.drop 1)).1∨refQ (uq (s.drop 1)).1≠(s.drop 1).take (uq (s.drop 1)).2.1)→Hn s=(Mt,0):=fun h=>by
    unfold Hn;rw [if_pos h0,if_neg h2,if_pos h]
   skip
   (refine Bz.of_code (X:=cx) false [] (by simp) Tryz.func47 (by kernel_rfl) rfl (by simp only [List.length_cons,List.length_nil,Tryz.ntmps47];decide) (by simp) ?_;refine Ax hm _ _ _ ?_;simp only [Tryz.ntmps47,Tryz.results47,Ah,Bn,Ab,Bd,A0,Bb,Cs,Be,Az,Ce,Cb,Hc,Ba,Ai,H2,Cc,Bp,G7,H5,Cr,Ag,Ae,A3,Cd,Bv,Bm,Bx,Bw,A5,B3,Bi,Ay,A4,B1,E6,Cj,Ad,Ac,Bl,Bf,A6,argW,List.map_cons,List.map_nil,List.append_nil,List.flatMap_cons,List.flatMap_nil,Nat.reduceLT,Nat.reduceEqDiff,true_and,Ca,Bu,↓reduceIte,reduceCtorEq,Bool.true_and,Lk,wi1 (i:=(uq (s.drop 1)).2.1) (by omega)])
   (repeat' (first | (refine iteI (fun h=>?_) (fun h=>?_))|(refine B2 (by first | omega | (simp (disch:=omega) only [Aa,Ak,Aj] at *;omega)) ?_;intro b hb)|(refine And.intro (by first | omega | (simp (disch:=omega) only [Aa,Ak,Aj] at *;omega)) ?_)|((first | (refine A9 hm (by rfl) (by kernel_rfl) ?_)|(refine Det.use (Gf s [46] hs (by simp)) ?_)|(refine Det.useQ (Gf s [46] hs (by simp)) ?_)|(refine Det.use (Yr (s.drop 1) (by simp;omega)) ?_)|(refine Det.useQ (Yr (s.drop 1) (by simp;omega)) ?_)|(refine Det.use (Jfb (s.drop 1) (by simp;omega)) ?_)|(refine Det.useQ (Jfb (s.drop 1) (by simp;omega)) ?_)|(refine Det.use (Nw (uq (s.drop 1)).1 (by omega)) ?_)|(refine Det.useQ (Nw (uq (s.drop 1)).1 (by omega)) ?_)|(refine Det.use (Vz (uq (s.drop 1)).1 (by omega) u1) ?_)|(refine Det.useQ (Vz (uq (s.drop 1)).1 (by omega) u1) ?_));simp only [Ch,Ah,Bn,Bs,Cn,Ab,Cf,Bd,A0,Nc,J6,N6,Jhx,Bb,Ep,Dd,Cs,Be,Az,Ce,C0,Cb,Ba,Ai,B8,Oo,Gn,Ft,Es,N0,Cc,Je,Nq,Py,Qd,O6,Bp,Bg,Iv,Br,C6,D6,D3,D4,Av,F4,B0,Aq,Hb,Ll,Js,Qz,Jp,He,K7,C5,Iq,Jj,E9,Ef,Fn,Ij,Rw,Gy,En,L6,N1,Kd,Lh,Tf,Gj,Jw,Gl,Jc,Fj,Ag,Ae,A3,Cd,Bv,Bm,Bx,Bw,A5,Bq,B3,Fc,Bi,Ay,A4,Bt,Cy,Cz,A7,A8,L0,B9,Aw,Ao,Al,B5,B6,Af,Am,Ap,J1,De,A1,Ar,Cu,Cj,Ds,Fl,Db,Hf,A2,Ad,Ac,List.map_cons,List.map_nil,List.getD_cons_zero,List.getD_cons_succ,List.length_cons,List.length_nil,List.nil_append,List.append_nil,List.flatMap_cons,List.flatMap_nil,List.take_succ_cons,List.take_zero,List.take_nil,List.drop_succ_cons,List.drop_zero,List.drop_nil,List.set_cons_zero,List.set_cons_succ,List.getElem?_cons_zero,List.getElem?_cons_succ,decide_eq_true_eq,bne_iff_ne,beq_eq_false_iff_ne,Bool.not_eq_eq_eq_not,ne_eq,not_false_eq_true,Nat.reduceLT,Nat.reduceLeDiff,Nat.reduceEqDiff,Nat.reduceAdd,Int.reduceToNat,Int.reduceLE,true_and,and_true,Ca,Bu,↓reduceIte,reduceCtorEq,Int.toNat_natCast,Nat.zero_add,Bool.not_true,PV.agg.injEq,PV.int.injEq,L.tup.injEq,List.cons.injEq,Bool.false_eq_true,Bool.true_and,Bool.and_true,Bool.or_false,Bool.or_true,beq_self_eq_true,and_self,Ja,Kw,Lm,Kk,J4,Va,Lk,h0,hw,w1,wi1 (i:=(uq (s.drop 1)).2.1) (by omega)])|(exact True.intro)|(exfalso;omega)))
   ·rw [no (.inl (by omega))];exact ⟨rfl,rfl⟩
   ·rw [no (.inr (.inl (by assumption)))];exact ⟨rfl,rfl⟩
   ·rw [no (.inr (.inr (by assumption)))];exact ⟨rfl,rfl⟩
   ·have e:Hn s=(⟨false,(uq (s.drop 1)).1,0⟩,(uq (s.drop 1)).2.1+1):=by
     unfold Hn
     rw [if_pos h0,if_neg h2,if_neg]
     rintro (h | h | h)
     ·omega
     ·contradiction
     ·exact absurd h (by assumption)
    rw [e];exact ⟨rfl,rfl⟩
 ·have e:Hn s=(Mt,0):=by unfold Hn;rw [if_neg h0]
  rw [e]
  exact Jlq s hs h0
def eI (s:List UInt8):Int:=Lib.indexByte s (93:Int).toNat.toUInt8
def pT (s:List UInt8):List UInt8:=(s.drop 1).take ((eI s).toNat - 1)
theorem Jiy {s:List UInt8} {e:Nat} (h:eI s=e):e<s.length:=by
 have:=(Lib.indexByte_some h).1
 exact (List.getElem?_eq_some_iff.1 this).1
def Ip (s:List UInt8):Step×Nat :=
 if s.take 1=[91]∧2≤eI s∧eI s≤8 then
  match Lib.atoiAll (pT s) with
  | .ok n=>if 0≤n∧n≤1000000∧Lib.itoa n=pT s then (⟨true,[],n⟩,(eI s).toNat+1) else (Mt,0)
  | _=>(Mt,0)
 else (Mt,0)
theorem Qp (s:List UInt8):Det cx 111 [.p (.str s),.p (.int .u8 93)] [] (.p (.int .i64 (eI s))) []:=Pm s 93
theorem Jo9 (s:List UInt8) (hs:s.length≤1000000) (h0:¬ (s.take 1=[91]∧2≤eI s∧eI s≤8)):Det cx 49 [.p (.str s)] [] (.tup [.agg Mt.cells,.int .i64 0]) []:=by
 (refine Bz.of_code (X:=cx) false [] (by simp) Tryz.func49 (by kernel_rfl) rfl (by simp only [List.length_cons,List.length_nil,Tryz.ntmps49];decide) (by simp) ?_;refine Ax hm _ _ _ ?_;simp only [Tryz.ntmps49,Tryz.results49,Ah,Bn,Ab,Bd,A0,Bb,Cs,Be,Az,Ce,Cb,Ba,Ai,H2,Cc,Bp,G7,H5,Cr,Ag,Ae,A3,Cd,Bv,Bm,Bx,Bw,A5,B3,Bi,Ay,A4,B1,E6,Cj,Ad,Ac,Bl,Bf,A6,argW,List.map_cons,List.map_nil,List.append_nil,List.flatMap_cons,List.flatMap_nil,Nat.reduceLT,Nat.reduceEqDiff,true_and,Ca,Bu,↓reduceIte,reduceCtorEq,Bool.true_and,Lk])
 (repeat' (first | (refine iteI (fun h=>?_) (fun h=>?_))|(refine B2 (by first | omega | (simp (disch:=omega) only [Aa,Ak,Aj] at *;omega)) ?_;intro b hb)|(refine And.intro (by first | omega | (simp (disch:=omega) only [Aa,Ak,Aj] at *;omega)) ?_)|((first | (refine A9 hm (by rfl) (by kernel_rfl) ?_)|(refine Det.use (Qp s) ?_)|(refine Det.useQ (Qp s) ?_)|(refine Det.use (Gf s [91] hs (by simp)) ?_)|(refine Det.useQ (Gf s [91] hs (by simp)) ?_));simp only [Ch,Ah,Bn,Bs,Cn,Ab,Cf,Bd,A0,Dq,Bb,Ep,Dd,Cs,Be,Az,Ce,C0,Cb,Hc,Ba,Ai,B8,Oo,Em,Gn,Ft,N0,Cc,Bp,Br,C6,D6,D3,D4,Av,B0,Aq,D1,Js,Jp,K7,C5,Iq,Jj,Ef,Fn,Rw,Gy,L6,N1,Kd,Gj,Jw,Gl,Jc,Fj,Ag,Ae,A3,Cd,Bv,Bm,Bx,Bw,A5,Bq,B3,Bi,Ay,A4,Bt,Cy,Cz,A7,A8,L0,B9,Aw,Ao,Al,B5,B6,Af,Am,Ap,J1,De,A1,Ar,Cu,Cj,Ds,Fl,Db,Hf,A2,Ad,Ac,List.map_cons,List.map_nil,List.getD_cons_zero,List.getD_cons_succ,List.length_cons,List.length_nil,List.nil_append,List.append_nil,List.flatMap_cons,List.flatMap_nil,List.take_succ_cons,List.take_zero,List.take_nil,List.drop_succ_cons,List.drop_zero,List.drop_nil,decide_eq_true_eq,beq_eq_false_iff_ne,Bool.not_eq_eq_eq_not,ne_eq,not_false_eq_true,Nat.reduceLT,Nat.reduceLeDiff,Nat.reduceEqDiff,Nat.reduceAdd,Int.reduceToNat,Int.reduceLE,true_and,and_true,Ca,Bu,↓reduceIte,reduceCtorEq,Nat.zero_add,Bool.not_true,PV.agg.injEq,L.tup.injEq,List.cons.injEq,Bool.false_eq_true,Bool.true_and,Bool.and_true,Bool.or_true,Ja,Lm,Kk,Va,Lk])|(exact True.intro)|(exfalso;omega)))
 ·rfl
 ·rfl
 ·rfl
 ·exact absurd ⟨Decidable.not_not.1 (by assumption),by omega,by omega⟩ h0
theorem Jdu (s:List UInt8) (hs:s.length≤1000000) (e:Nat) (he:eI s=e) (h0:s.take 1=[91]) (h1:2≤e) (h2:e≤8) (h3:∃ a,Jdq ((s.drop 1).take (e - 1))=.tup [.int .i64 a,.ifc]):Det cx 49 [.p (.str s)] [] (.tup [.agg Mt.cells,.int .i64 0]) []:=by
 obtain ⟨a,h3⟩:=h3
 have hl:=Jiy he
 skip
 (refine Bz.of_code (X:=cx) false [] (by simp) Tryz.func49 (by kernel_rfl) rfl (by simp only [List.length_cons,List.length_nil,Tryz.ntmps49];decide) (by simp) ?_;refine Ax hm _ _ _ ?_;simp only [Tryz.ntmps49,Tryz.results49,Ah,Bn,Ab,Bd,A0,Bb,Cs,Be,Az,Ce,Cb,Ba,Ai,H2,Cc,Bp,G7,H5,Cr,Ag,Ae,A3,Cd,Bv,Bm,Bx,Bw,A5,B3,Bi,Ay,A4,B1,E6,Cj,Ad,Ac,Bl,Bf,A6,argW,List.map_cons,List.map_nil,List.append_nil,List.flatMap_cons,List.flatMap_nil,Nat.reduceLT,Nat.reduceEqDiff,true_and,Ca,Bu,↓reduceIte,reduceCtorEq,Bool.true_and,Lk])
 (repeat' (first | (refine iteI (fun h=>?_) (fun h=>?_))|(refine B2 (by first | omega | (simp (disch:=omega) only [Aa,Ak,Aj] at *;omega)) ?_;intro b hb)|(refine And.intro (by first | omega | (simp (disch:=omega) only [Aa,Ak,Aj] at *;omega)) ?_)|((first | (refine A9 hm (by rfl) (by kernel_rfl) ?_)|(refine Det.use (Qp s) ?_)|(refine Det.useQ (Qp s) ?_)|(refine Det.use (Gf s [91] hs (by simp)) ?_)|(refine Det.useQ (Gf s [91] hs (by simp)) ?_)|(refine Det.use (Jgz ((s.drop 1).take (e - 1)) (by simp;omega)) ?_)|(refine Det.useQ (Jgz ((s.drop 1).take (e - 1)) (by simp;omega)) ?_));simp only [Ch,Ah,Bn,Bs,Cn,Ab,Cf,Bd,A0,Dq,Nc,J6,N6,Bb,Ep,Dd,Cs,Be,Az,Ce,C0,Cb,Hc,Ko,Ba,Ai,B8,Oo,Em,Gn,Ft,Es,N0,Cc,Je,Nq,Py,Bp,Bg,Iv,Br,C6,D6,D3,D4,Av,Wt,Jlh,Ls,B0,Aq,D1,Js,Jp,He,K7,C5,Iq,Jj,Ef,Fn,Rw,Gy,En,L6,N1,Kd,Gj,Jw,Gl,Jc,Fj,Ag,Ae,A3,Cd,Bv,Bm,Bx,Bw,A5,Bq,B3,Fc,Bi,Ay,A4,Bt,Cy,Cz,A7,A8,L0,B9,Aw,Ao,Al,B5,B6,Af,Am,Ap,J1,De,A1,Ar,Cu,Cj,Ds,Fl,Db,Hf,A2,Ad,Ac,List.map_cons,List.map_nil,List.getD_cons_zero,List.getD_cons_succ,List.length_cons,List.length_nil,List.nil_append,List.append_nil,List.flatMap_cons,List.flatMap_nil,List.take_succ_cons,List.take_zero,List.take_nil,List.drop_succ_cons,List.drop_zero,List.drop_nil,List.getElem?_cons_zero,List.getElem?_cons_succ,decide_eq_true_eq,ne_eq,not_false_eq_true,Nat.reduceLT,Nat.reduceLeDiff,Nat.reduceEqDiff,Nat.reduceAdd,Int.reduceToNat,Int.reduceLE,true_and,and_true,Ca,Bu,↓reduceIte,reduceCtorEq,Int.toNat_natCast,Nat.zero_add,Bool.not_true,Bool.not_false,PV.agg.injEq,L.tup.injEq,List.cons.injEq,Bool.false_eq_true,Bool.true_and,Bool.and_true,Bool.or_true,beq_self_eq_true,Ja,Lm,Kk,Va,Lk,W7,h0,he,h3])|(exact True.intro)|(exfalso;omega)))
 rfl
theorem Jpa (s:List UInt8) (hs:s.length≤1000000) (e:Nat) (he:eI s=e) (h0:s.take 1=[91]) (h1:2≤e) (h2:e≤8) (n:Int) (hn:n≤9223372036854775807) (hn0:-9223372036854775808≤n) (h3:Jdq ((s.drop 1).take (e - 1))=.tup [.int .i64 n,.nifc]):Det cx 49 [.p (.str s)] [] (.tup [.agg (if 0≤n∧n≤1000000∧Lib.itoa n=(s.drop 1).take (e - 1) then (⟨true,[],n⟩,e+1) else (Mt,0):Step×Nat).1.cells,.int .i64 (if 0≤n∧n≤1000000∧Lib.itoa n=(s.drop 1).take (e - 1) then (⟨true,[],n⟩,e+1) else (Mt,0):Step×Nat).2]) []:=by
 have hl:=Jiy he
 skip
 (refine Bz.of_code (X:=cx) false [] (by simp) Tryz.func49 (by kernel_rfl) rfl (by simp only [List.length_cons,List.length_nil,Tryz.ntmps49];decide) (by simp) ?_;refine Ax hm _ _ _ ?_;simp only [Tryz.ntmps49,Tryz.results49,Ah,Bn,Ab,Bd,A0,Bb,Cs,Be,Az,Ce,Cb,Ba,Ai,H2,Cc,Bp,G7,H5,Cr,Ag,Ae,A3,Cd,Bv,Bm,Bx,Bw,A5,B3,Bi,Ay,A4,B1,E6,Cj,Ad,Ac,Bl,Bf,A6,argW,List.map_cons,List.map_nil,List.append_nil,List.flatMap_cons,List.flatMap_nil,Nat.reduceLT,Nat.reduceEqDiff,true_and,Ca,Bu,↓reduceIte,reduceCtorEq,Bool.true_and,Lk,wi1 (i:=e) (by omega)])
 (repeat' (first | (refine iteI (fun h=>?_) (fun h=>?_))|(refine B2 (by first | omega | (simp (disch:=omega) only [Aa,Ak,Aj] at *;omega)) ?_;intro b hb)|(refine And.intro (by first | omega | (simp (disch:=omega) only [Aa,Ak,Aj] at *;omega)) ?_)|((first | (refine A9 hm (by rfl) (by kernel_rfl) ?_)|(refine Det.use (Qp s) ?_)|(refine Det.useQ (Qp s) ?_)|(refine Det.use (Gf s [91] hs (by simp)) ?_)|(refine Det.useQ (Gf s [91] hs (by simp)) ?_)|(refine Det.use (Jgz ((s.drop 1).take (e - 1)) (by simp;omega)) ?_)|(refine Det.useQ (Jgz ((s.drop 1).take (e - 1)) (by simp;omega)) ?_)|(refine Det.use (Yo n hn0 hn) ?_)|(refine Det.useQ (Yo n hn0 hn) ?_));simp only [Ch,Ah,Bn,Bs,Cn,Ab,Cf,Bd,A0,Dq,Nc,J6,N6,Jhx,Bb,Ep,Dd,Cs,Be,Az,Ce,C0,Cb,Hc,Ko,Ba,Ai,B8,Oo,Em,Gn,Ft,Es,N0,Cc,Je,Nq,Py,Qd,O6,Bp,Bg,Iv,Br,C6,D6,D3,D4,Av,F4,Wt,Jha,Ls,B0,Aq,Hb,D1,Js,Qz,Jp,He,K7,C5,Iq,Jj,Ef,Fn,Rw,Gy,En,L6,N1,Kd,Lh,Uh,N7,Gj,Jw,Gl,Jc,Fj,Ag,Ae,A3,Cd,Bv,Bm,Bx,Bw,A5,Bq,B3,Fc,Bi,Ay,A4,Bt,Cy,Cz,A7,A8,L0,B9,Aw,Ao,Al,B5,B6,Af,Am,Ap,J1,De,A1,Ar,Cu,Cj,Ds,Fl,Db,Hf,A2,Ad,Ac,List.map_cons,List.map_nil,List.getD_cons_zero,List.getD_cons_succ,List.length_cons,List.length_nil,List.nil_append,List.append_nil,List.flatMap_cons,List.flatMap_nil,List.take_succ_cons,List.take_zero,List.take_nil,List.drop_succ_cons,List.drop_zero,List.drop_nil,List.set_cons_zero,List.set_cons_succ,List.getElem?_cons_zero,List.getElem?_cons_succ,decide_eq_true_eq,beq_eq_false_iff_ne,Bool.not_eq_eq_eq_not,ne_eq,not_false_eq_true,Nat.reduceLT,Nat.reduceLeDiff,Nat.reduceEqDiff,Nat.reduceAdd,Int.reduceToNat,Int.reduceLE,true_and,and_true,Ca,Bu,↓reduceIte,reduceCtorEq,Int.toNat_natCast,Nat.zero_add,Bool.not_true,PV.agg.injEq,PV.int.injEq,L.tup.injEq,List.cons.injEq,Bool.false_eq_true,Bool.true_and,Bool.and_true,Bool.or_false,Bool.or_true,beq_self_eq_true,and_self,Mj,Nr,Ja,Lm,Kk,Jq,Na,Va,Lk,W7,h0,he,h3,wi1 (i:=e) (by omega)])|(exact True.intro)|(exfalso;omega)))
 ·rw [if_neg (by omega)];exact ⟨rfl,rfl⟩
 ·rw [if_neg (fun h=>absurd h.2.2 (by assumption))];exact ⟨rfl,rfl⟩
 ·rw [if_neg (by omega)];exact ⟨rfl,rfl⟩
 ·rw [if_pos ⟨by omega,by omega,Decidable.not_not.1 (by assumption)⟩];exact ⟨rfl,rfl⟩
theorem U7 (s:List UInt8) (hs:s.length≤1000000):Det cx 49 [.p (.str s)] [] (.tup [.agg (Ip s).1.cells,.int .i64 (Ip s).2]) []:=by
 by_cases h:s.take 1=[91]∧2≤eI s∧eI s≤8
 ·obtain ⟨h0,h1,h2⟩:=h
  obtain ⟨e,he⟩:∃ e:Nat,eI s=e:=⟨(eI s).toNat,by omega⟩
  have hl:=Jiy he
  have hT:pT s=(s.drop 1).take (e - 1):=by unfold pT;rw [he];rfl
  unfold Ip
  rw [if_pos ⟨h0,h1,h2⟩,hT,he]
  cases ha:Lib.atoiAll ((s.drop 1).take (e - 1)) with
  | ok n =>
   have hb:=Lib.atoiAll_bounds ha
   exact Jpa s hs e he h0 (by omega) (by omega) n hb.2 hb.1 (by unfold Jdq;rw [ha])
  | range=>exact Jdu s hs e he h0 (by omega) (by omega) ⟨_,by unfold Jdq;rw [ha]⟩
  | _=>exact Jdu s hs e he h0 (by omega) (by omega) ⟨_,by unfold Jdq;rw [ha]⟩
 ·unfold Ip
  rw [if_neg h]
  exact Jo9 s hs h
end Go.LX
namespace Go.LX
open Go Go.RowKit Go.Proofs
def PLe (x y:PV):Prop:=x=y∨(x=.snil∧y=.sl [])
def psLe:List PV→List PV→Prop
 | [],[]=>True
 | x :: xs,y :: ys=>PLe x y∧psLe xs ys
 | _,_=>False
theorem PLe.refl (x:PV):PLe x x:=.inl rfl
theorem PLe.nil:PLe .snil (.sl []):=.inr ⟨rfl,rfl⟩
theorem PLe.rep {w:World} {Im:Nat→Prop} {v:Value} {x y:PV} (h:PLe x y) (hr:PRep w Im v x):PRep w Im v y:=by
 rcases h with rfl | ⟨rfl,rfl⟩
 ·exact hr
 ·cases hr;exact PRep.slNil
theorem Jft:∀ {a b:List PV},psLe a b→a.length=b.length∧∀ (i:Nat) (y:PV),b[i]? = some y→∃ x,a[i]? = some x∧PLe x y
 | [],[],_=>⟨rfl,fun i l' h=>by simp at h⟩
 | x :: a,y :: b,h=>by
  obtain ⟨h1,h2⟩:=h
  obtain ⟨h3,h4⟩:=Jft h2
  refine ⟨by simp [h3],fun i l' hl=>?_⟩
  cases i with
  | zero=>simp at hl;subst hl;exact ⟨x,rfl,h1⟩
  | succ i=>simp at hl;simpa using h4 i l' hl
 | [],_ :: _,h=>h.elim
 | _ :: _,[],h=>h.elim
def OLe (l l':L):Prop:=l=l'∨(∃ x y,l=.p x∧l'=.p y∧PLe x y)∨∃ a b,l=.tup a∧l'=.tup b∧psLe a b
theorem OLe.rep {β:Env} {w:World} {Im:Nat→Prop} {v:Value} {l l':L} (h:OLe l l') (hr:LRep β w Im v l):LRep β w Im v l':=by
 rcases h with rfl | ⟨x,y,rfl,rfl,h⟩ | ⟨a,b,rfl,rfl,h⟩
 ·exact hr
 ·exact h.rep hr
 ·obtain ⟨vs,h1,h2,h3⟩:=hr
  obtain ⟨g1,g2⟩:=Jft h
  refine ⟨vs,h1,by rw [h2,g1],fun i x p hx hp=>?_⟩
  obtain ⟨q,hq,hle⟩:=g2 i p hp
  exact hle.rep (h3 i x q hx hq)
theorem Bz.weak {X:Cx} {f:FuncId} {args:List L} {rs:Regs} {Post Post':L→Regs→Prop} (h:Bz X f args rs Post) (hp:∀ l q,Post l q→∃ l',OLe l l'∧Post' l' q):Bz X f args rs Post' :=
 ⟨h.1,fun β Im w vs hg hf=>(h.2 β Im w vs hg hf).mono fun _ _ ⟨v,l,rs',β',Im',he,hP,hr,hc⟩=>by
  obtain ⟨l',h1,h2⟩:=hp _ _ hP
  exact ⟨v,l',rs',β',Im',he,h2,h1.rep hr,hc⟩⟩
theorem Det.weak {X:Cx} {f:FuncId} {args:List L} {rs rs':Regs} {l':L} (h:Bz X f args rs fun m q=>OLe m l'∧q=rs'):Det X f args rs l' rs' :=
 h.weak fun l q ⟨h1,h2⟩=>⟨l',h1,rfl,h2⟩
theorem OLe.of_tup {a b:List PV} (h:psLe a b):OLe (.tup a) (.tup b):=.inr (.inr ⟨_,_,rfl,rfl,h⟩)
end Go.LX
