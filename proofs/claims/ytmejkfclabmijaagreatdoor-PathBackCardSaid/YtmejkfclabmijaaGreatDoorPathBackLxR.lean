/- Package quote: numbers, escapes. -/
import Derived.Test.YtmejkfclabmijaaGreatDoorPathBackLxQ
set_option linter.unusedSimpArgs false
set_option linter.unusedVariables false
set_option linter.unusedSectionVars false
set_option linter.unnecessarySimpa false
set_option maxRecDepth 100000
set_option maxHeartbeats 2000000
namespace Go.LX
open Go Go.RowKit Go.Proofs
attribute [local irreducible] Bz SWP Gm
theorem pre2 {s:List UInt8} (h:6≤s.length):s.take 2=[92,117] ↔ at_ s 0=92∧at_ s 1=117:=by
 match s,h with
 | a :: b :: t,_ =>
  simp only [List.take_succ_cons,List.take_zero,List.cons.injEq,and_true,Ra,at_consS]
  constructor
  ·rintro ⟨rfl,rfl⟩;exact ⟨rfl,rfl⟩
  ·rintro ⟨h1,h2⟩;exact ⟨UInt8.toNat_inj.1 h1,UInt8.toNat_inj.1 h2⟩
theorem Pq (s:List UInt8) (hs:s.length≤1000000):Det cx 224 [.p (.str s)] [] (.p (.int .i64 (u4 s))) []:=by
 by_cases h6:s.length<6
 ·rw [show u4 s = -1 by unfold u4;rw [if_neg (by omega)]]
  (refine Bz.of_code (X:=cx) false [] (by simp) Tryz.func224 (by kernel_rfl) rfl (by simp only [List.length_cons,List.length_nil,Tryz.ntmps224];decide) (by simp) ?_;refine Ax hm _ _ _ ?_;simp only [Tryz.ntmps224,Tryz.results224,Ah,Bn,Bs,Cn,Ab,Cf,Bd,A0,Dq,Bb,Ep,Be,Az,Ce,C0,Cb,Hc,Ba,Ai,B8,Em,Eg,Cc,Br,C6,D6,D3,D4,Av,B0,Aq,D1,D9,Fb,Ag,Ae,A3,Cd,Bv,Bm,Bx,Bw,A5,B3,Bi,Ay,A4,Bt,Cy,Cz,A7,A8,B9,Aw,Ao,Al,B5,B6,Af,Am,Ap,Cl,A1,Cj,A2,Ad,Ac,argW,List.map_cons,List.map_nil,List.getD_cons_zero,List.getD_cons_succ,List.append_nil,List.flatMap_cons,List.flatMap_nil,decide_eq_true_eq,Nat.reduceLT,Nat.reduceEqDiff,Int.reduceNeg,Ca,Bu,↓reduceIte,reduceCtorEq,Bool.false_eq_true,Bool.or_true,and_self,Ja])
  (repeat' (first | (refine iteI (fun h=>?_) (fun h=>?_))|(refine B2 (by first | omega | (simp (disch:=omega) only [Aa,Ak,Aj] at *;omega)) ?_;intro b hb)|(refine And.intro (by first | omega | (simp (disch:=omega) only [Aa,Ak,Aj] at *;omega)) ?_)|((first | (refine A9 hm (by rfl) (by kernel_rfl) ?_));simp only [Dm])|(exact True.intro)|(exfalso;omega)))
 have hT:((s.drop 2).take 4).length=4:=by simp;omega
 have hp:=Jix _ hT
 have hca:=Jeq _ hT
 have hu:u4 s=if at_ s 0=92∧at_ s 1=117 then (match hexN ((s.drop 2).take 4) 0 with | some n=>(n:Int) | none=>-1) else -1:=by
  unfold u4
  by_cases hq:at_ s 0=92∧at_ s 1=117
  ·rw [if_pos hq,if_pos ⟨by omega,hq⟩];rfl
  ·rw [if_neg hq,if_neg (fun h=>hq h.2)]
 have hmk:0≤iaF ((s.drop 2).take 4) 5 0→hexN ((s.drop 2).take 4) 0=none:=fun h=>by
  obtain ⟨k,h1,h2⟩:=Jk7 _ _ _ h
  exact Jfv _ _ k h1 h2
 generalize hTT:(s.drop 2).take 4=T at *
 cases hx:hexN T 0 with
 | none =>
  rw [hx] at hp hu
  simp only [Jg7,ite_self] at hp hu
  rw [hu]
  skip
  (refine Bz.of_code (X:=cx) false [] (by simp) Tryz.func224 (by kernel_rfl) rfl (by simp only [List.length_cons,List.length_nil,Tryz.ntmps224];decide) (by simp) ?_;refine Ax hm _ _ _ ?_;simp only [Tryz.ntmps224,Tryz.results224,Ah,Bn,Bs,Cn,Ab,Cf,Bd,A0,Dq,Bb,Ep,Be,Az,Ce,C0,Cb,Hc,Ba,Ai,B8,Em,Eg,Cc,Br,C6,D6,D3,D4,Av,B0,Aq,D1,D9,Fb,Ag,Ae,A3,Cd,Bv,Bm,Bx,Bw,A5,B3,Bi,Ay,A4,Bt,Cy,Cz,A7,A8,B9,Aw,Ao,Al,B5,B6,Af,Am,Ap,Cl,A1,Cj,A2,Ad,Ac,argW,List.map_cons,List.map_nil,List.getD_cons_zero,List.getD_cons_succ,List.append_nil,List.flatMap_cons,List.flatMap_nil,decide_eq_true_eq,Nat.reduceLT,Nat.reduceEqDiff,Int.reduceNeg,Ca,Bu,↓reduceIte,reduceCtorEq,Bool.false_eq_true,Bool.or_true,and_self,Ja])
  (repeat' (first | (refine iteI (fun h=>?_) (fun h=>?_))|(refine B2 (by first | omega | (simp (disch:=omega) only [Aa,Ak,Aj] at *;omega)) ?_;intro b hb)|(refine And.intro (by first | omega | (simp (disch:=omega) only [Aa,Ak,Aj] at *;omega)) ?_)|((first | (refine A9 hm (by rfl) (by kernel_rfl) ?_)|(refine Det.use (Gf s _ hs (by decide)) ?_)|(refine Det.useQ (Gf s _ hs (by decide)) ?_)|(refine Det.use (hca) ?_)|(refine Det.useQ (hca) ?_)|(refine Ec.use (hca) ?_)|(refine C7.use (hca) ?_)|(refine Det.use (hp) ?_)|(refine Det.useQ (hp) ?_)|(refine Ec.use (hp) ?_)|(refine C7.use (hp) ?_));simp only [Ch,Ah,Bn,Bs,Cn,Ab,Cf,Bd,A0,Dq,Bb,Ep,Cs,Be,Az,Ce,C0,Cb,Hc,Ko,Ba,Ai,B8,Oo,Em,Ft,Es,Cc,Bg,Br,C6,D6,D3,D4,Wt,Jlh,Ls,B0,Aq,Jp,He,Ef,Fn,Rw,Gy,En,Ag,Ae,A3,Cd,Bv,Bm,Bx,Bw,A5,Bq,B3,Fc,Bi,Ay,A4,Bt,Cy,Cz,A7,A8,B9,Aw,Ao,Al,B5,B6,Af,Am,Ap,Cl,A1,Cj,A2,Ad,Ac,List.map_cons,List.map_nil,List.getD_cons_zero,List.getD_cons_succ,List.length_cons,List.length_nil,List.append_nil,List.flatMap_cons,List.flatMap_nil,List.getElem?_cons_zero,List.getElem?_cons_succ,decide_eq_true_eq,beq_eq_false_iff_ne,Bool.not_eq_eq_eq_not,ne_eq,Nat.reduceLT,Nat.reduceEqDiff,Nat.reduceAdd,Nat.reduceSub,Int.reduceToNat,Int.reduceLE,Int.reduceNeg,true_and,Ca,Bu,↓reduceIte,reduceCtorEq,Nat.zero_add,Bool.not_true,Bool.not_false,Bool.false_eq_true,Bool.true_and,Bool.or_true,and_self,Ja,W7,hTT])|(exact True.intro)|(exfalso;omega)))
  all_goals first
   | (rw [hu,if_neg (by rw [← pre2 (by omega)];assumption)])
   | (rw [hu,if_pos (by rw [← pre2 (by omega)];simp_all)])
 | some n =>
  have hia:¬ 0≤iaF T 5 0:=fun h=>by rw [hmk h] at hx;cases hx
  have hn:=Jig _ _ _ hx
  rw [hT] at hn
  have hwn:=wi0 (c:=n) (by omega)
  rw [hx] at hp hu
  simp only [Jg7] at hp hu
  skip
  (refine Bz.of_code (X:=cx) false [] (by simp) Tryz.func224 (by kernel_rfl) rfl (by simp only [List.length_cons,List.length_nil,Tryz.ntmps224];decide) (by simp) ?_;refine Ax hm _ _ _ ?_;simp only [Tryz.ntmps224,Tryz.results224,Ah,Bn,Bs,Cn,Ab,Cf,Bd,A0,Dq,Bb,Ep,Be,Az,Ce,C0,Cb,Hc,Ba,Ai,B8,Em,Eg,Cc,Br,C6,D6,D3,D4,Av,B0,Aq,D1,D9,Fb,Ag,Ae,A3,Cd,Bv,Bm,Bx,Bw,A5,B3,Bi,Ay,A4,Bt,Cy,Cz,A7,A8,B9,Aw,Ao,Al,B5,B6,Af,Am,Ap,Cl,A1,Cj,A2,Ad,Ac,argW,List.map_cons,List.map_nil,List.getD_cons_zero,List.getD_cons_succ,List.append_nil,List.flatMap_cons,List.flatMap_nil,decide_eq_true_eq,Nat.reduceLT,Nat.reduceEqDiff,Int.reduceNeg,true_and,and_true,Ca,Bu,↓reduceIte,reduceCtorEq,L.p.injEq,PV.int.injEq,Bool.false_eq_true,Bool.true_and,Bool.and_true,Bool.or_true,Ja])
  (repeat' (first | (refine iteI (fun h=>?_) (fun h=>?_))|(refine B2 (by first | omega | (simp (disch:=omega) only [Aa,Ak,Aj] at *;omega)) ?_;intro b hb)|(refine And.intro (by first | omega | (simp (disch:=omega) only [Aa,Ak,Aj] at *;omega)) ?_)|((first | (refine A9 hm (by rfl) (by kernel_rfl) ?_)|(refine Det.use (Gf s _ hs (by decide)) ?_)|(refine Det.useQ (Gf s _ hs (by decide)) ?_)|(refine Det.use (hca) ?_)|(refine Det.useQ (hca) ?_)|(refine Ec.use (hca) ?_)|(refine C7.use (hca) ?_)|(refine Det.use (hp) ?_)|(refine Det.useQ (hp) ?_)|(refine Ec.use (hp) ?_)|(refine C7.use (hp) ?_));simp only [Ch,Ah,Bn,Bs,Cn,Ab,Cf,Bd,A0,Dq,Bb,Ep,Cs,Be,Az,Ce,C0,Cb,Hc,Ko,Ba,Ai,B8,Oo,Kq,Em,Ft,Es,Cc,Bg,Br,C6,D6,D3,D4,Wt,Jha,Ls,B0,Aq,Jp,Nv,Iy,Li,Io,He,Ef,Fn,Rw,Gy,En,Ag,Ae,A3,Cd,Bv,Bm,Bx,Bw,A5,Bq,B3,Fc,Bi,Ay,A4,Bt,Cy,Cz,A7,A8,B9,Aw,Ao,Al,B5,B6,Af,Am,Ap,Cl,A1,Cj,A2,Ad,Ac,List.map_cons,List.map_nil,List.getD_cons_zero,List.getD_cons_succ,List.length_cons,List.length_nil,List.append_nil,List.flatMap_cons,List.flatMap_nil,List.getElem?_cons_zero,List.getElem?_cons_succ,decide_eq_true_eq,beq_eq_false_iff_ne,Bool.not_eq_eq_eq_not,ne_eq,Nat.reduceLT,Nat.reduceEqDiff,Nat.reduceAdd,Nat.reduceSub,Int.reduceToNat,Int.reduceLE,Int.reduceNeg,true_and,and_true,Ca,Bu,↓reduceIte,reduceCtorEq,Nat.zero_add,Bool.not_true,L.p.injEq,PV.int.injEq,Bool.false_eq_true,Bool.true_and,Bool.and_true,Bool.or_true,Jdn,Ja,W7,Yq,hTT,hTT,hwn])|(exact True.intro)|(exfalso;omega)))
  all_goals first
   | (rw [hu,if_neg (by rw [← pre2 (by omega)];assumption)])
   | (rw [hu,if_pos (by rw [← pre2 (by omega)];simp_all)])
theorem Jav (c:Nat):(R2 c=none∧Ka (.int .u8 c) Ng 0=some none)∨∃ i r,R2 c=some r∧r≤92∧Ka (.int .u8 c) Ng 0=some (some (i,.int .i32 r)):=by
 have key:∀ (b:Int) (v:PV) (es:List (PV×PV)) (i:Nat),Ka (.int .u8 c) ((.int .u8 b,v) :: es) i=if (c:Int)=b then some (some (i,v)) else Ka (.int .u8 c) es (i+1):=fun b v es i=>by
  by_cases h:(c:Int)=b
  ·simp [Ka,V9,h]
  ·have:((c:Int) == b)=false:=by simp [h]
   simp [Ka,V9,this,h]
 unfold R2 Ng
 simp only [key]
 have hc:∀ b:Nat,((c:Int)=(b:Int))=(c=b):=fun b=>by apply propext;omega
 have e1:=hc 34
 have e2:=hc 92
 have e3:=hc 47
 have e4:=hc 98
 have e5:=hc 102
 have e6:=hc 110
 have e7:=hc 114
 have e8:=hc 116
 simp only [Int.cast_ofNat_Int] at e1 e2 e3 e4 e5 e6 e7 e8
 simp only [e1,e2,e3,e4,e5,e6,e7,e8]
 by_cases h1:c=34
 ·exact .inr ⟨0,34,by simp [h1],by decide,by simp [h1]⟩
 by_cases h2:c=92
 ·exact .inr ⟨1,92,by simp [h2],by decide,by simp [h2]⟩
 by_cases h3:c=47
 ·exact .inr ⟨2,47,by simp [h3],by decide,by simp [h3]⟩
 by_cases h4:c=98
 ·exact .inr ⟨3,8,by simp [h4],by decide,by simp [h4]⟩
 by_cases h5:c=102
 ·exact .inr ⟨4,12,by simp [h5],by decide,by simp [h5]⟩
 by_cases h6:c=110
 ·exact .inr ⟨5,10,by simp [h6],by decide,by simp [h6]⟩
 by_cases h7:c=114
 ·exact .inr ⟨6,13,by simp [h7],by decide,by simp [h7]⟩
 by_cases h8:c=116
 ·exact .inr ⟨7,9,by simp [h8],by decide,by simp [h8]⟩
 ·refine .inl ⟨by simp [*],?_⟩
  rw [if_neg h1,if_neg h2,if_neg h3,if_neg h4,if_neg h5,if_neg h6,if_neg h7,if_neg h8]
  rfl
theorem u4_six {s:List UInt8} (h:0≤u4 s):6≤s.length:=by
 unfold u4 at h
 split at h
 ·rename_i h6;exact h6.1
 ·omega
theorem Xj (s:List UInt8) (hs:s.length≤1000000):Det cx 177 [.p (.str s)] [] (.tup [.int .i32 (escR s).1,.int .i64 (escR s).2]) []:=by
 obtain ⟨hu1,hu2⟩:=Jnj s
 obtain ⟨hv1,hv2⟩:=Jnj (s.drop 6)
 have hB:=Pw s 1
 have h66:0≤u4 s→6≤s.length:=u4_six
 rcases (Jav (at_ s 1)).symm with ⟨i,r,hsr,hr,hmf⟩ | ⟨hsr,hmf⟩
 ·skip
  (refine Bz.of_code (X:=cx) false [] (by simp) Tryz.func177 (by kernel_rfl) rfl (by simp only [List.length_cons,List.length_nil,Tryz.ntmps177];decide) (by simp) ?_;refine Ax hm _ _ _ ?_;simp only [Tryz.ntmps177,Tryz.results177,Ch,Ah,Bn,Bs,Cn,Ab,Cf,Bd,A0,Bb,Be,Az,Cb,Ba,Ai,B8,Eg,Iv,Br,Av,B0,Aq,D1,D9,Fb,Ag,Ae,A3,Bt,Cy,Cz,A7,A8,B9,Aw,Ao,Al,B5,B6,Af,Am,Ap,De,A1,A2,Ad,Ac,argW,List.map_cons,List.map_nil,decide_eq_true_eq,Nat.reduceLT,Nat.reduceEqDiff,true_and,and_true,Ca,↓reduceIte,reduceCtorEq,PV.int.injEq,L.tup.injEq,List.cons.injEq,Bool.true_and,Bool.and_true,Bool.or_true,Ja])
  (repeat' (first | (refine iteI (fun h=>?_) (fun h=>?_))|(refine B2 (by first | omega | (simp (disch:=omega) only [Aa,Ak,Aj] at *;omega)) ?_;intro b hb)|(refine And.intro (by first | omega | (simp (disch:=omega) only [Aa,Ak,Aj] at *;omega)) ?_)|((first | (refine A9 hm (by rfl) (by kernel_rfl) ?_)|(refine Det.use (V0) ?_)|(refine Det.useQ (V0) ?_)|(refine Det.use (Pq _ hs) ?_)|(refine Det.useQ (Pq _ hs) ?_)|(refine Det.use (Pq (s.drop 6) (by simp;omega)) ?_)|(refine Det.useQ (Pq (s.drop 6) (by simp;omega)) ?_));simp only [Ah,Bn,Bs,Cn,Ab,Cf,Bd,A0,Nc,J6,Bb,Be,Az,Cb,Ba,Ai,Je,Sn,Jbk,Y8,Jc1,O6,Bp,Bg,Br,He,Nz,L8,En,Ag,Ae,A3,Sz,Jgb,Jj2,Jcq,Pb,Oj,Lw,Bt,Cy,Cz,A7,A8,B9,Aw,Ao,Al,B5,B6,Af,Am,Ap,De,A1,A2,Ad,Ac,List.map_cons,List.map_nil,List.getElem?_cons_zero,List.getElem?_cons_succ,Nat.reduceLT,Nat.reduceEqDiff,Int.reduceToNat,Int.reduceLE,true_and,and_true,Ca,↓reduceIte,reduceCtorEq,PV.int.injEq,L.tup.injEq,List.cons.injEq,Bool.true_and,Bool.and_true,beq_self_eq_true,T8,Ja,Jlv,Jh2,hmf])|(exact True.intro)|(exfalso;omega)))
  ·unfold escR;rw [if_pos (by omega)];exact ⟨rfl,rfl⟩
  ·unfold escR;rw [if_neg (by omega),hsr];exact ⟨rfl,rfl⟩
 ·have z0:=Jiq (n:=u4 s) (by omega) (by omega)
  have z1:=Aa (n:=u4 s - 55296) (by omega) (by omega)
  have z2:IntKind.i64.wrap ((u4 s - 55296) * 2 ^ min 10 IntKind.i64.bits)=(u4 s - 55296) * 1024:=Aa (n:=(u4 s - 55296) * 1024) (by omega) (by omega)
  have z3:=Aa (n:=65536+(u4 s - 55296) * 1024) (by omega) (by omega)
  have z4:=Aa (n:=65536+(u4 s - 55296) * 1024+u4 (s.drop 6)) (by omega) (by omega)
  have z5:=Aa (n:=65536+(u4 s - 55296) * 1024+u4 (s.drop 6) - 56320) (by omega) (by omega)
  have z6:=Jiq (n:=65536+(u4 s - 55296) * 1024+u4 (s.drop 6) - 56320) (by omega) (by omega)
  skip
  (refine Bz.of_code (X:=cx) false [] (by simp) Tryz.func177 (by kernel_rfl) rfl (by simp only [List.length_cons,List.length_nil,Tryz.ntmps177];decide) (by simp) ?_;refine Ax hm _ _ _ ?_;simp only [Tryz.ntmps177,Tryz.results177,Ch,Ah,Bn,Bs,Cn,Ab,Cf,Bd,A0,Bb,Be,Az,Cb,Ba,Ai,B8,Eg,Iv,Br,Av,B0,Aq,D1,D9,Fb,Ag,Ae,A3,Bt,Cy,Cz,A7,A8,B9,Aw,Ao,Al,B5,B6,Af,Am,Ap,De,A1,A2,Ad,Ac,argW,List.map_cons,List.map_nil,decide_eq_true_eq,Nat.reduceLT,Nat.reduceEqDiff,true_and,and_true,Ca,↓reduceIte,reduceCtorEq,PV.int.injEq,L.tup.injEq,List.cons.injEq,Bool.true_and,Bool.and_true,Bool.or_true,Ja])
  (repeat' (first | (refine iteI (fun h=>?_) (fun h=>?_))|(refine B2 (by first | omega | (simp (disch:=omega) only [Aa,Ak,Aj] at *;omega)) ?_;intro b hb)|(refine And.intro (by first | omega | (simp (disch:=omega) only [Aa,Ak,Aj] at *;omega)) ?_)|((first | (refine A9 hm (by rfl) (by kernel_rfl) ?_)|(refine Det.use (V0) ?_)|(refine Det.useQ (V0) ?_)|(refine Det.use (Pq _ hs) ?_)|(refine Det.useQ (Pq _ hs) ?_)|(refine Det.use (Pq (s.drop 6) (by simp;omega)) ?_)|(refine Det.useQ (Pq (s.drop 6) (by simp;omega)) ?_));simp only [Ch,Ah,Bn,Bs,Ci,Cn,Ab,Cf,Bo,Ei,Bd,A0,Dq,Nc,J6,Bb,Ep,Cs,Be,Az,Ce,C0,Cb,Ba,Ai,B8,Kq,Em,Ft,Cc,Je,Sn,Jbk,Y8,Jc1,O6,Bp,Bg,Br,C6,D6,Du,D3,Kg,D4,Av,B0,Aq,Jqm,Hb,Nn,D1,M2,Nv,Iy,Li,Io,He,Nz,L8,E9,Ef,Fn,Ij,Gy,En,Ag,Ae,A3,Cd,Bv,Bm,Bx,Bw,A5,Bq,B3,Bi,Ay,A4,Sz,Jgb,Jj2,Jdp,Pb,Oj,Lw,Bt,Cy,Cz,A7,A8,B9,Aw,Ao,Al,B5,B6,Af,Am,Ap,De,A1,Cj,A2,Ad,Ac,List.map_cons,List.map_nil,List.getD_cons_zero,List.getD_cons_succ,List.append_nil,List.flatMap_cons,List.flatMap_nil,List.getElem?_cons_zero,List.getElem?_cons_succ,decide_eq_true_eq,Nat.reduceLT,Nat.reduceEqDiff,Int.reduceToNat,Int.reduceLE,true_and,and_true,Ca,Bu,↓reduceIte,reduceCtorEq,PV.int.injEq,L.tup.injEq,List.cons.injEq,Bool.false_eq_true,Bool.true_and,Bool.and_true,Bool.or_false,Bool.or_true,beq_self_eq_true,Jdn,T8,Ja,Qc,Jlv,Jh2,hmf,hmf,z0,z1,z2,z3,z4,z5,z6])|(exact True.intro)|(exfalso;omega)))
  ·unfold escR;rw [if_pos (by omega)];exact ⟨rfl,rfl⟩
  all_goals (unfold escR;rw [if_neg (by omega),hsr];simp only)
  all_goals ((repeat' split) <;> first | (exfalso;omega)|(exact ⟨rfl,rfl⟩)|(refine ⟨?_,rfl⟩;simp only;omega))
end Go.LX
set_option maxRecDepth 100000
set_option maxHeartbeats 2000000
namespace Go.LX
open Go Go.RowKit Go.Proofs
attribute [local irreducible] Bz SWP Gm
theorem Rh {s:List UInt8} {i:Nat} (h:rlen s i≠0):(code s i<128 ↔ at_ s i<128)∧(at_ s i<128→code s i=at_ s i):=by
 have h0:=Pw s i
 rcases O7 s i with e | ⟨e,g1⟩ | ⟨e,g1,g2,g3⟩ | ⟨e,g1,g2,g3,g4,g5,g6⟩ | ⟨e,g1,g2,g3,g4,g5,g6,g7⟩
 ·exact absurd e h
 ·have ec:code s i=at_ s i:=by unfold code;rw [if_pos g1]
  omega
 ·have ec:code s i=at_ s i % 32 * 64+at_ s (i+1) % 64:=by unfold code;rw [if_neg (by omega),if_pos (by omega)]
  omega
 ·have ec:code s i=at_ s i % 16 * 4096+at_ s (i+1) % 64 * 64+at_ s (i+2) % 64:=by unfold code;rw [if_neg (by omega),if_neg (by omega),if_pos (by omega)]
  omega
 ·have ec:code s i=at_ s i % 8 * 262144+at_ s (i+1) % 64 * 4096+at_ s (i+2) % 64 * 64+at_ s (i+3) % 64:=by unfold code;rw [if_neg (by omega),if_neg (by omega),if_neg (by omega)]
  omega
theorem Jdy {s:List UInt8} {i:Nat}:rlen s i=1 ↔ at_ s i<128:=by
 rcases O7 s i with e | ⟨e,g1⟩ | ⟨e,g1,g2,g3⟩ | ⟨e,g1,g2,g3,g4,g5,g6⟩ | ⟨e,g1,g2,g3,g4,g5,g6,g7⟩
 ·constructor
  ·omega
  ·intro h;unfold rlen at e;rw [if_pos h] at e;cases e
 all_goals omega
theorem Jpn {s:List UInt8} {i:Nat} (h:i<s.length) (hr:rlen s i=0):V5 (s.drop i)=(65533,1):=by
 unfold V5
 rw [if_neg (by rw [List.length_drop];omega),Jch,Nat.add_zero,Pp,if_pos hr]
theorem Jmm {s:List UInt8} {i:Nat} (h:i<s.length) (hr:rlen s i≠0):V5 (s.drop i)=(code s i,rlen s i):=by
 unfold V5
 rw [if_neg (by rw [List.length_drop];omega),Jch,Nat.add_zero,Pp,if_neg hr]
theorem Jap {s:List UInt8} (h:(escR s).2≠0):Kv (escR s).1:=by
 have h1:=Jnj s
 have h2:=Jnj (s.drop 6)
 unfold escR at h ⊢
 unfold Kv
 split at h
 ·exact absurd rfl h
 ·rename_i hl
  rw [if_neg hl]
  split at h
  ·rename_i r hr
   have:r≤92:=by rcases Jav (at_ s 1) with ⟨e,_⟩ | ⟨i,r',e,hr',_⟩ <;> rw [hr] at e <;> cases e;exact hr'
   simp only;omega
  ·split at h
   ·exact absurd rfl h
   ·rename_i g1
    rw [if_neg g1]
    split at h
    ·rename_i g2
     rw [if_pos g2];simp only;omega
    ·rename_i g2
     rw [if_neg g2]
     split at h
     ·exact absurd rfl h
     ·rename_i g3
      rw [if_neg g3];simp only;omega
theorem S7 (r:Int):1≤(utf r).length:=by
 rw [M4];unfold utfC
 repeat' split
 all_goals simp
def uqSt (i:Nat) (s:List UInt8):List UInt8→St
 | []=>⟨Fo 60 [(0,.p (.str s)),(5,.ptr 5 0 0),(6,.p (.int .i64 i))],[(5,.var 128 [.p .nptr,.p .snil])]⟩
 | c :: t=>⟨Fo 60 [(0,.p (.str s)),(5,.ptr 5 0 0),(6,.p (.int .i64 i))],[(54,.row 5 1 (bstr (c :: t))),(5,.var 128 [.ptr 5 0 0,.own 54 0 (c :: t).length])]⟩
theorem Tc {i:Nat} {s out:List UInt8} (h:out≠[]):uqSt i s out=⟨Fo 60 [(0,.p (.str s)),(5,.ptr 5 0 0),(6,.p (.int .i64 i))],[(54,.row 5 1 (bstr out)),(5,.var 128 [.ptr 5 0 0,.own 54 0 out.length])]⟩:=by
 cases out with
 | nil=>exact absurd rfl h
 | cons c t=>rfl
theorem Jc0 {i:Nat} {s:List UInt8}:uqSt i s []=⟨Fo 60 [(0,.p (.str s)),(5,.ptr 5 0 0),(6,.p (.int .i64 i))],[(5,.var 128 [.p .nptr,.p .snil])]⟩:=rfl
theorem pre1 {s:List UInt8}:s.take 1=[34] ↔ ¬ (s.length=0∨at_ s 0≠34):=by
 match s with
 | []=>simp
 | a :: t =>
  simp only [List.take_succ_cons,List.take_zero,List.cons.injEq,and_true,Ra,List.length_cons]
  constructor
  ·rintro rfl;simp
  ·intro h
   exact UInt8.toNat_inj.1 (by simp at h ⊢;exact h)
theorem Jfb (s:List UInt8) (hs:s.length≤1000000):Det cx 107 [.p (.str s)] [] (.tup [.str (uq s).1,.int .i64 (uq s).2.1,.int .i64 (uq s).2.2]) []:=by
 (refine Bz.of_code (X:=cx) false [] (by simp) Tryz.func107 (by kernel_rfl) rfl (by simp only [List.length_cons,List.length_nil,Tryz.ntmps107];decide) (by simp) ?_;refine Ax hm _ _ _ ?_;simp only [Tryz.ntmps107,Tryz.results107,Ah,Bn,Ab,Bd,A0,Bb,Be,Az,Ce,Cb,Hc,Ba,Ai,Cc,Ag,Ae,A3,Cd,Bv,Bm,Bx,Bw,A5,B3,Bi,Ay,A4,Cj,Ad,Ac,argW,List.map_cons,List.map_nil,List.append_nil,List.flatMap_cons,List.flatMap_nil,Nat.reduceLT,Nat.reduceEqDiff,Ca,Bu,↓reduceIte,reduceCtorEq])
 (repeat' (first | (refine iteI (fun h=>?_) (fun h=>?_))|(refine B2 (by first | omega | (simp (disch:=omega) only [Aa,Ak,Aj] at *;omega)) ?_;intro b hb)|(refine And.intro (by first | omega | (simp (disch:=omega) only [Aa,Ak,Aj] at *;omega)) ?_)|((first | (refine A9 hm (by rfl) (by kernel_rfl) ?_)|(refine Det.use (Gf s _ hs (by decide)) ?_)|(refine Det.useQ (Gf s _ hs (by decide)) ?_));simp only [Ch,Ah,Bn,Bs,Ci,H9,Cn,Ab,Cf,Bd,A0,Bb,Cs,Be,Az,Cb,Hc,Ai,Oo,H2,Bp,Br,Jp,G7,H5,Cr,Ag,Ae,A3,Bq,B3,Bt,Cy,Cz,A7,A8,B9,Aw,Ao,Al,B5,B6,Af,Am,Ap,De,A1,B1,E6,A2,Ad,Ac,Bl,Bf,A6,List.map_cons,List.map_nil,List.length_cons,List.length_nil,beq_eq_false_iff_ne,Bool.not_eq_eq_eq_not,ne_eq,Nat.reduceLT,Nat.reduceEqDiff,true_and,and_true,Ca,↓reduceIte,Nat.zero_add,Bool.not_true,PV.int.injEq,PV.str.injEq,L.tup.injEq,List.cons.injEq,Bool.true_and,Bool.and_true,Jg5])|(exact True.intro)|(exfalso;omega)))
 ·unfold uq;rw [if_pos (by rw [pre1] at *;exact Decidable.not_not.1 (by assumption))];exact ⟨rfl,rfl,rfl⟩
 have hp:¬ (s.length=0∨at_ s 0≠34):=pre1.1 (Decidable.not_not.1 (by assumption))
 have e:uq s=uqF s (s.length+1) 1 []:=by unfold uq;rw [if_neg hp]
 refine SWP.loop (fun x:Nat×Nat×List UInt8=>uqSt x.1 s x.2.2) (fun x=>1≤x.1∧x.1≤s.length∧s.length+1≤x.1+x.2.1∧x.2.2.length≤4 * x.1∧uqF s x.2.1 x.1 x.2.2=uq s) (fun x=>s.length - x.1) (1,s.length+1,[]) (St.le_slots (by simp only [Ck,Cm,Ac,Bj,Au,Nat.reduceEqDiff,reduceIte,Nat.reduceLT,Nat.reduceLeDiff];simp (disch:=omega) [Au,Bc,Cq,Aa] <;> (repeat' apply And.intro) <;> omega) (by simp (disch:=omega) [Dj,Eo,Dg,Bh,Au,Bc,Cq,Aa]) (by simp [Dk])) ⟨by simp,by simp only;omega,by simp,by simp,e.symm⟩ ?_
 rintro ⟨i,f,out⟩ ⟨h0,h1,h2,h3,h4⟩
 simp only at h0 h1 h2 h3 h4
 obtain ⟨g,rfl⟩:∃ g,f=g+1:=⟨f - 1,by omega⟩
 show SWP _ _ _ _ (uqSt i s out)
 by_cases hlt:¬ i<s.length
 ·rw [uqF,if_neg hlt] at h4
  by_cases hne:out=[]
  ·subst hne
   rw [Jc0]
   (refine Ax hm _ _ _ ?_;simp only [Ch,Ah,Bn,Bs,Ci,Fd,Cn,Ab,Co,B4,Bd,A0,Bb,Be,Az,Ce,Cb,Hc,Ba,Ai,B8,Ft,Eg,Cc,Br,Av,Aq,D1,D9,Fb,E9,Ef,Fn,Ij,Gy,Ag,Ae,A3,Cd,Bv,Bm,Bx,Bw,A5,B3,Bi,Ay,A4,Bt,Cy,Cz,A7,A8,B9,Aw,Ao,Al,B5,B6,Af,Am,Ap,De,A1,Ar,Cj,A2,Ad,Ac,Ea,List.map_cons,List.map_nil,List.append_nil,List.flatMap_cons,List.flatMap_nil,decide_eq_true_eq,Nat.reduceLT,Nat.reduceEqDiff,true_and,and_true,Ca,Bu,↓reduceIte,reduceCtorEq,Int.toNat_natCast,Int.natCast_nonneg,PV.int.injEq,PV.str.injEq,L.tup.injEq,List.cons.injEq,Bool.true_and,Bool.and_true,Bool.or_false,Ja])
   (repeat' (first | (refine iteI (fun h=>?_) (fun h=>?_))|(refine B2 (by first | omega | (simp (disch:=omega) only [Aa,Ak,Aj] at *;omega)) ?_;intro b hb)|(refine And.intro (by first | omega | (simp (disch:=omega) only [Aa,Ak,Aj] at *;omega)) ?_)|((first | (refine A9 hm (by rfl) (by kernel_rfl) ?_));simp only [Dm])|(exact True.intro)|(exfalso;omega)))
   rw [← h4];exact ⟨rfl,rfl,rfl⟩
  ·rw [Tc hne]
   (refine Ax hm _ _ _ ?_;simp only [Ch,Ah,Bn,Bs,Ci,Fd,Cn,Ab,Co,B4,Bd,A0,Bb,Be,Az,Ce,Cb,Hc,Ba,Ai,B8,Ft,Eg,Cc,Br,Av,Aq,D1,D9,Fb,E9,Ef,Fn,Ij,Gy,Ag,Ae,A3,Cd,Bv,Bm,Bx,Bw,A5,B3,Bi,Ay,A4,Bt,Cy,Cz,A7,A8,B9,Aw,Ao,Al,B5,B6,Af,Am,Ap,De,A1,Ar,Cj,A2,Ad,Ac,Ea,List.map_cons,List.map_nil,List.append_nil,List.flatMap_cons,List.flatMap_nil,decide_eq_true_eq,Nat.reduceLT,Nat.reduceEqDiff,true_and,and_true,Ca,Bu,↓reduceIte,reduceCtorEq,Int.toNat_natCast,Int.natCast_nonneg,PV.int.injEq,PV.str.injEq,L.tup.injEq,List.cons.injEq,Bool.true_and,Bool.and_true,Bool.or_false,Ja])
   (repeat' (first | (refine iteI (fun h=>?_) (fun h=>?_))|(refine B2 (by first | omega | (simp (disch:=omega) only [Aa,Ak,Aj] at *;omega)) ?_;intro b hb)|(refine And.intro (by first | omega | (simp (disch:=omega) only [Aa,Ak,Aj] at *;omega)) ?_)|((first | (refine A9 hm (by rfl) (by kernel_rfl) ?_));simp only [Dm])|(exact True.intro)|(exfalso;omega)))
   rw [← h4];exact ⟨rfl,rfl,rfl⟩
 ·have hlt:=Decidable.not_not.1 hlt
  have ht:=tk_le s i hlt
  rw [uqF,if_pos hlt] at h4
  by_cases hr:rlen s i=0
  ·have hd:=Jpn hlt hr
   have ha:128≤at_ s i:=Nat.le_of_not_lt fun h=>by rw [Jdy.2 h] at hr;cases hr
   have h5:(tk s i).2=0:=by unfold tk;rw [if_neg (by omega)];exact hr
   rw [if_neg (by omega),if_pos (.inl h5)] at h4
   by_cases hne:out=[]
   ·subst hne
    rw [Jc0]
    skip
    (refine Ax hm _ _ _ ?_;simp only [Ch,Ah,Bn,Bs,Ci,Fd,Cn,Ab,Co,B4,Bd,A0,Bb,Be,Az,Ce,Cb,Hc,Ba,Ai,B8,Ft,Eg,Cc,Br,Av,Aq,D1,D9,Fb,E9,Ef,Fn,Ij,Gy,Ag,Ae,A3,Cd,Bv,Bm,Bx,Bw,A5,B3,Bi,Ay,A4,Bt,Cy,Cz,A7,A8,B9,Aw,Ao,Al,B5,B6,Af,Am,Ap,De,A1,Ar,Cj,A2,Ad,Ac,Ea,List.map_cons,List.map_nil,List.append_nil,List.flatMap_cons,List.flatMap_nil,decide_eq_true_eq,Nat.reduceLT,Nat.reduceEqDiff,true_and,and_true,Ca,Bu,↓reduceIte,reduceCtorEq,Int.toNat_natCast,Int.natCast_nonneg,PV.int.injEq,PV.str.injEq,L.tup.injEq,List.cons.injEq,Bool.true_and,Bool.and_true,Bool.or_false,Ja])
    (repeat' (first | (refine iteI (fun h=>?_) (fun h=>?_))|(refine B2 (by first | omega | (simp (disch:=omega) only [Aa,Ak,Aj] at *;omega)) ?_;intro b hb)|(refine And.intro (by first | omega | (simp (disch:=omega) only [Aa,Ak,Aj] at *;omega)) ?_)|((first | (refine A9 hm (by rfl) (by kernel_rfl) ?_)|(refine Det.use (Lg _) ?_)|(refine Det.useQ (Lg _) ?_));simp only [Ch,Ah,Bn,Bs,Ci,Cn,Ab,Cf,Bo,Ei,Bd,A0,Dq,Bb,Ep,Cs,Be,Az,Ce,C0,Cb,Hc,Ba,Ai,B8,Em,Ft,Es,Cc,Bg,Br,C6,D6,Du,D4,Av,B0,Aq,H0,D1,He,E9,Ef,Fn,Ij,Gy,En,Ag,Ae,A3,Hi,Cd,Bv,Bm,Bx,Bw,Ew,A5,Bq,Dt,F2,Ff,Fe,Dy,B3,E3,Fc,F9,Bi,Ay,Ev,A4,Et,Gw,Ey,Ee,Ez,Ho,Hp,Eu,Ed,Bt,Cy,Cz,A7,A8,B9,Aw,Ao,Al,B5,B6,Af,Am,Ap,De,A1,Ar,Hg,Cj,Ie,A2,Ad,Ac,Ea,List.map_cons,List.map_nil,List.getD_cons_zero,List.getD_cons_succ,List.length_cons,List.length_nil,List.append_nil,List.flatMap_cons,List.flatMap_nil,List.contains_cons,List.contains_nil,List.getElem?_cons_zero,List.getElem?_cons_succ,decide_eq_true_eq,beq_iff_eq,Nat.reduceLT,Nat.reduceEqDiff,Nat.reduceAdd,true_and,and_true,Ca,Bu,↓reduceIte,reduceCtorEq,Int.toNat_natCast,Int.natCast_nonneg,Nat.zero_add,PV.int.injEq,PV.str.injEq,L.tup.injEq,List.cons.injEq,Bool.false_eq_true,Bool.true_and,Bool.and_true,Bool.or_false,Bool.or_true,beq_self_eq_true,Ja,hd])|(exact True.intro)|(exfalso;omega)))
    rw [← h4];exact ⟨rfl,rfl,rfl⟩
   ·rw [Tc hne]
    (refine Ax hm _ _ _ ?_;simp only [Ch,Ah,Bn,Bs,Ci,Fd,Cn,Ab,Co,B4,Bd,A0,Bb,Be,Az,Ce,Cb,Hc,Ba,Ai,B8,Ft,Eg,Cc,Br,Av,Aq,D1,D9,Fb,E9,Ef,Fn,Ij,Gy,Ag,Ae,A3,Cd,Bv,Bm,Bx,Bw,A5,B3,Bi,Ay,A4,Bt,Cy,Cz,A7,A8,B9,Aw,Ao,Al,B5,B6,Af,Am,Ap,De,A1,Ar,Cj,A2,Ad,Ac,Ea,List.map_cons,List.map_nil,List.append_nil,List.flatMap_cons,List.flatMap_nil,decide_eq_true_eq,Nat.reduceLT,Nat.reduceEqDiff,true_and,and_true,Ca,Bu,↓reduceIte,reduceCtorEq,Int.toNat_natCast,Int.natCast_nonneg,PV.int.injEq,PV.str.injEq,L.tup.injEq,List.cons.injEq,Bool.true_and,Bool.and_true,Bool.or_false,Ja])
    (repeat' (first | (refine iteI (fun h=>?_) (fun h=>?_))|(refine B2 (by first | omega | (simp (disch:=omega) only [Aa,Ak,Aj] at *;omega)) ?_;intro b hb)|(refine And.intro (by first | omega | (simp (disch:=omega) only [Aa,Ak,Aj] at *;omega)) ?_)|((first | (refine A9 hm (by rfl) (by kernel_rfl) ?_)|(refine Det.use (Lg _) ?_)|(refine Det.useQ (Lg _) ?_));simp only [Ch,Ah,Bn,Bs,Ci,Cn,Ab,Cf,Bo,Ei,Bd,A0,Dq,Bb,Ep,Cs,Be,Az,Ce,C0,Cb,Hc,Ba,Ai,B8,Em,Ft,Es,Cc,Bg,Br,C6,D6,Du,D4,Av,B0,Aq,H0,D1,He,E9,Ef,Fn,Ij,Gy,En,Ag,Ae,A3,Hi,Cd,Bv,Bm,Bx,Bw,Ew,A5,Bq,Dt,F2,Ff,Fe,Dy,C1,B3,E3,Dl,Fc,F9,Ek,Bi,Ay,Ev,A4,Et,Gw,Ey,Ee,Ez,Hk,Ho,Hp,Eu,Ed,Bt,Cy,Cz,A7,A8,B9,Aw,Ao,Al,B5,B6,Af,Am,Ap,De,A1,Ar,Hg,Iw,Cj,Ie,Jr,A2,Ad,Ac,Ea,List.map_cons,List.map_nil,List.getD_cons_zero,List.getD_cons_succ,List.length_cons,List.length_nil,List.cons_append,List.nil_append,List.append_nil,List.flatMap_cons,List.flatMap_nil,List.contains_cons,List.contains_nil,List.getElem?_cons_zero,List.getElem?_cons_succ,decide_eq_true_eq,beq_iff_eq,Nat.reduceLT,Nat.reduceLeDiff,Nat.reduceEqDiff,Nat.reduceAdd,Nat.reduceBEq,true_and,and_true,Ca,Bu,↓reduceIte,reduceCtorEq,Int.toNat_natCast,Int.natCast_nonneg,Nat.zero_add,PV.int.injEq,PV.str.injEq,L.tup.injEq,List.cons.injEq,Bool.false_eq_true,Bool.true_and,Bool.and_true,Bool.or_false,Bool.or_true,beq_self_eq_true,Ja,hd])|(exact True.intro)|(exfalso;omega)))
    rw [← h4];exact ⟨rfl,rfl,rfl⟩
  ·have hd:=Jmm hlt hr
   have hc:=Rh hr
   have hone:rlen s i=1 ↔ at_ s i<128:=Jdy
   have hR:=Pt hr
   unfold Kv at hR
   have hE:(escR (s.drop i)).2≠0→0≤(escR (s.drop i)).1∧(escR (s.drop i)).1≤1114111:=fun h=>by
    have:=Jap h
    unfold Kv at this
    omega
   have hEl:=Jno (s.drop i)
   have h4r:=Jd9 s i
   have hT9:at_ s i=92→(escR (s.drop i)).2≠0→tk s i=(utf (escR (s.drop i)).1,(escR (s.drop i)).2):=fun h h'=>by
    unfold tk;rw [if_pos h];unfold escS;rw [if_neg h']
   have hT0:at_ s i=92→(escR (s.drop i)).2=0→(tk s i).2=0:=fun h h'=>by
    unfold tk;rw [if_pos h];unfold escS;rw [if_pos h']
   have hTn:at_ s i≠92→tk s i=(utf (code s i),rlen s i):=fun h=>by
    unfold tk;rw [if_neg h,Sh hr hlt]
   have hu1:=S7 (code s i)
   have hu2:=S7 (escR (s.drop i)).1
   have hnn:∀ r,out ++ utf r≠[]:=fun r h=>by have:=S7 r;rw [(List.append_eq_nil_iff.1 h).2] at this;simp at this
   by_cases hne:out=[]
   ·subst hne
    rw [Jc0]
    skip
    (refine Ax hm _ _ _ ?_;simp only [Ch,Ah,Bn,Bs,Ci,Fd,Cn,Ab,Co,B4,Bd,A0,Bb,Be,Az,Ce,Cb,Hc,Ba,Ai,B8,Ft,Eg,Cc,Br,Av,Aq,D1,D9,Fb,E9,Ef,Fn,Ij,Gy,Ag,Ae,A3,Cd,Bv,Bm,Bx,Bw,A5,B3,Bi,Ay,A4,Bt,Cy,Cz,A7,A8,B9,Aw,Ao,Al,B5,B6,Af,Am,Ap,De,A1,Ar,Cj,A2,Ad,Ac,Ea,List.map_cons,List.map_nil,List.append_nil,List.flatMap_cons,List.flatMap_nil,decide_eq_true_eq,Nat.reduceLT,Nat.reduceEqDiff,true_and,and_true,Ca,Bu,↓reduceIte,reduceCtorEq,Int.toNat_natCast,Int.natCast_nonneg,PV.int.injEq,PV.str.injEq,L.tup.injEq,List.cons.injEq,Bool.true_and,Bool.and_true,Bool.or_false,Ja,wi1 (i:=i) (by omega),wia (i:=i) (j:=rlen s i) (by omega) (by omega),wia (i:=i) (j:=(escR (s.drop i)).2) (by omega) (by omega)])
    (repeat' (first | (refine iteI (fun h=>?_) (fun h=>?_))|(refine B2 (by first | omega | (simp (disch:=omega) only [Aa,Ak,Aj] at *;omega)) ?_;intro b hb)|(refine And.intro (by first | omega | (simp (disch:=omega) only [Aa,Ak,Aj] at *;omega)) ?_)|((first | (refine A9 hm (by rfl) (by kernel_rfl) ?_)|(refine Det.use (Lg _) ?_)|(refine Det.useQ (Lg _) ?_)|(refine Det.use (Ox) ?_)|(refine Det.useQ (Ox) ?_)|(refine Det.use (Xj _ (by rw [List.length_drop];omega)) ?_)|(refine Det.useQ (Xj _ (by rw [List.length_drop];omega)) ?_)|(refine Det.use (Rv _ (by omega) (by omega)) ?_)|(refine Det.useQ (Rv _ (by omega) (by omega)) ?_));simp only [Ch,Ah,Bn,Bs,Ci,Cn,Ab,Cf,Bo,Ei,Bd,A0,Dq,Bb,Ep,Cs,Be,Az,Ce,C0,Cb,Hc,Ba,Ai,B8,Em,Ft,Es,Cc,Bg,Br,C6,D6,Du,D4,Av,B0,Aq,Hb,H0,D1,He,E9,Ef,Fn,Ij,Gy,En,Ag,Ae,A3,Hi,Cd,Bv,Bm,Bx,Bw,Ew,A5,Bq,Hv,J3,Dn,Fw,Gc,Df,Eb,Gu,G5,Hm,K8,E4,E2,Fg,Fm,Fi,G9,Gv,Ih,Jd,Dp,Bk,Dt,Hz,Gx,M9,Fh,Fx,F2,Ff,Fe,Dy,C1,B3,E3,Dl,Fc,F9,Ek,Bi,Ay,Ev,A4,Et,Gw,Ey,Ee,Ez,Ho,Hp,Eu,Ed,Bt,Cy,Cz,A7,A8,B9,Aw,Ao,Al,B5,B6,Af,Am,Ap,De,A1,Ar,Hg,Cj,Ie,A2,Ad,Ac,Cg,Bf,A6,Ea,List.map_cons,List.map_nil,List.getD_cons_zero,List.getD_cons_succ,List.length_cons,List.length_nil,List.cons_append,List.nil_append,List.append_nil,List.flatMap_cons,List.flatMap_nil,List.contains_cons,List.contains_nil,List.getElem?_cons_zero,List.getElem?_cons_succ,decide_eq_true_eq,beq_iff_eq,ne_eq,not_false_eq_true,Nat.reduceLT,Nat.reduceLeDiff,Nat.reduceEqDiff,Nat.reduceAdd,true_and,and_true,Ca,Bu,↓reduceIte,reduceCtorEq,Int.toNat_natCast,Int.natCast_nonneg,Nat.zero_add,PV.int.injEq,PV.str.injEq,L.tup.injEq,List.cons.injEq,Bool.false_eq_true,Bool.true_and,Bool.and_true,Bool.or_false,Bool.or_true,beq_self_eq_true,Ja,hd,wi1 (i:=i) (by omega),wia (i:=i) (j:=rlen s i) (by omega) (by omega),wia (i:=i) (j:=(escR (s.drop i)).2) (by omega) (by omega)])|(exact True.intro)|(exfalso;omega)))
    all_goals first
     | (rw [if_pos (by omega)] at h4;rw [← h4];exact ⟨rfl,rfl,rfl⟩)
     | (rw [if_neg (by omega),if_pos (.inl (hT0 (by omega) (by omega)))] at h4;rw [← h4];exact ⟨rfl,rfl,rfl⟩)
     | (rw [if_neg (by omega),if_pos (.inr (by omega))] at h4;rw [← h4];exact ⟨rfl,rfl,rfl⟩)
     | (
      have hT:=hTn (by omega)
      rw [hT] at h4 ht
      simp only at h4 ht
      rw [if_neg (by omega),if_neg (by omega)] at h4
      refine ⟨(i+rlen s i,g,[] ++ utf (code s i)),⟨by simp only;omega,by simp only;omega,by simp only;omega,by simp only [List.length_append,List.length_nil];omega,h4⟩,by simp only;omega,?_⟩
      simp only;rw [Tc (hnn _)];exact (St.le_slots (by simp only [Ck,Cm,Ac,Bj,Au,Nat.reduceEqDiff,reduceIte,Nat.reduceLT,Nat.reduceLeDiff];simp (disch:=omega) [Au,Bc,Cq,Aa] <;> (repeat' apply And.intro) <;> omega) (by simp (disch:=omega) [Dj,Eo,Dg,Bh,Au,Bc,Cq,Aa]) (by simp [Dk])))
     | (
      have hT:=hT9 (by omega) (by omega)
      rw [hT] at h4 ht
      simp only at h4 ht
      rw [if_neg (by omega),if_neg (by omega)] at h4
      refine ⟨(i+(escR (s.drop i)).2,g,[] ++ utf (escR (s.drop i)).1),⟨by simp only;omega,by simp only;omega,by simp only;omega,by simp only [List.length_append,List.length_nil];omega,h4⟩,by simp only;omega,?_⟩
      simp only;rw [Tc (hnn _)];exact (St.le_slots (by simp only [Ck,Cm,Ac,Bj,Au,Nat.reduceEqDiff,reduceIte,Nat.reduceLT,Nat.reduceLeDiff];simp (disch:=omega) [Au,Bc,Cq,Aa] <;> (repeat' apply And.intro) <;> omega) (by simp (disch:=omega) [Dj,Eo,Dg,Bh,Au,Bc,Cq,Aa]) (by simp [Dk])))
   ·have hl0:out.length≠0:=fun h=>hne (List.eq_nil_of_length_eq_zero h)
    rw [Tc hne]
    (refine Ax hm _ _ _ ?_;simp only [Ch,Ah,Bn,Bs,Ci,Fd,Cn,Ab,Co,B4,Bd,A0,Bb,Be,Az,Ce,Cb,Hc,Ba,Ai,B8,Ft,Eg,Cc,Br,Av,Aq,D1,D9,Fb,E9,Ef,Fn,Ij,Gy,Ag,Ae,A3,Cd,Bv,Bm,Bx,Bw,A5,B3,Bi,Ay,A4,Bt,Cy,Cz,A7,A8,B9,Aw,Ao,Al,B5,B6,Af,Am,Ap,De,A1,Ar,Cj,A2,Ad,Ac,Ea,List.map_cons,List.map_nil,List.append_nil,List.flatMap_cons,List.flatMap_nil,decide_eq_true_eq,Nat.reduceLT,Nat.reduceEqDiff,true_and,and_true,Ca,Bu,↓reduceIte,reduceCtorEq,Int.toNat_natCast,Int.natCast_nonneg,PV.int.injEq,PV.str.injEq,L.tup.injEq,List.cons.injEq,Bool.true_and,Bool.and_true,Bool.or_false,Ja,wi1 (i:=i) (by omega),wia (i:=i) (j:=rlen s i) (by omega) (by omega),wia (i:=i) (j:=(escR (s.drop i)).2) (by omega) (by omega)])
    (repeat' (first | (refine iteI (fun h=>?_) (fun h=>?_))|(refine B2 (by first | omega | (simp (disch:=omega) only [Aa,Ak,Aj] at *;omega)) ?_;intro b hb)|(refine And.intro (by first | omega | (simp (disch:=omega) only [Aa,Ak,Aj] at *;omega)) ?_)|((first | (refine A9 hm (by rfl) (by kernel_rfl) ?_)|(refine Det.use (Lg _) ?_)|(refine Det.useQ (Lg _) ?_)|(refine Det.use (Nh out _ rfl (by omega) hl0) ?_)|(refine Det.useQ (Nh out _ rfl (by omega) hl0) ?_)|(refine Det.use (Xj _ (by rw [List.length_drop];omega)) ?_)|(refine Det.useQ (Xj _ (by rw [List.length_drop];omega)) ?_)|(refine Det.use (M6 _ _ _ (Mb _) (by omega) (by omega) (by omega)) ?_)|(refine Det.useQ (M6 _ _ _ (Mb _) (by omega) (by omega) (by omega)) ?_));simp only [Ch,Ah,Bn,Bs,Ci,Cn,Ab,Cf,Bo,Ei,Bd,A0,Dq,Bb,Ep,Cs,Be,Az,Ce,C0,Cb,Hc,Ba,Ai,B8,Em,Ft,Es,Cc,Bg,Br,C6,D6,Du,D4,Av,B0,Aq,Hb,H0,D1,He,E9,Ef,Fn,Ij,Gy,En,Ag,Ae,A3,Hi,Cd,Bv,Bm,Bx,Bw,Ew,A5,Bq,Hv,Dn,Fw,Df,Eb,Gu,G5,E4,E2,Fg,Fm,Lv,Fi,Gv,Ih,Dp,Bk,Dt,Hz,Hx,Fh,Fx,F2,Ff,Fe,Dy,C1,B3,E3,Dl,Fc,Hq,F9,Ek,Bi,Ay,Ev,A4,Et,Gw,Ey,Ee,Ez,Hk,Ho,Hp,Eu,Ed,Bt,Cy,Cz,A7,A8,B9,Aw,Ao,Al,B5,B6,Af,Am,Ap,De,A1,Ar,Hg,Iw,Cj,Ie,Jr,A2,Ad,Ac,Cg,Bf,A6,Ea,List.map_cons,List.map_nil,List.getD_cons_zero,List.getD_cons_succ,List.length_cons,List.length_nil,List.cons_append,List.nil_append,List.append_nil,List.flatMap_cons,List.flatMap_nil,List.contains_cons,List.contains_nil,List.getElem?_cons_zero,List.getElem?_cons_succ,decide_eq_true_eq,beq_iff_eq,Nat.reduceLT,Nat.reduceLeDiff,Nat.reduceEqDiff,Nat.reduceAdd,Nat.reduceBEq,true_and,and_true,Ca,Bu,↓reduceIte,reduceCtorEq,Int.toNat_natCast,Int.natCast_nonneg,Nat.zero_add,PV.int.injEq,PV.str.injEq,L.tup.injEq,List.cons.injEq,Bool.false_eq_true,Bool.true_and,Bool.and_true,Bool.or_false,Bool.or_true,beq_self_eq_true,Ja,hd,wi1 (i:=i) (by omega),wia (i:=i) (j:=rlen s i) (by omega) (by omega),wia (i:=i) (j:=(escR (s.drop i)).2) (by omega) (by omega)])|(exact True.intro)|(exfalso;omega)))
    all_goals first
     | (rw [if_pos (by omega)] at h4;rw [← h4];exact ⟨rfl,rfl,rfl⟩)
     | (rw [if_neg (by omega),if_pos (.inl (hT0 (by omega) (by omega)))] at h4;rw [← h4];exact ⟨rfl,rfl,rfl⟩)
     | (rw [if_neg (by omega),if_pos (.inr (by omega))] at h4;rw [← h4];exact ⟨rfl,rfl,rfl⟩)
     | (
      have hT:=hTn (by omega)
      rw [hT] at h4 ht
      simp only at h4 ht
      rw [if_neg (by omega),if_neg (by omega)] at h4
      refine ⟨(i+rlen s i,g,out ++ utf (code s i)),⟨by simp only;omega,by simp only;omega,by simp only;omega,by simp only [List.length_append];omega,h4⟩,by simp only;omega,?_⟩
      simp only;rw [Tc (hnn _),Rc,List.length_append];exact (St.le_slots (by simp only [Ck,Cm,Ac,Bj,Au,Nat.reduceEqDiff,reduceIte,Nat.reduceLT,Nat.reduceLeDiff];simp (disch:=omega) [Au,Bc,Cq,Aa] <;> (repeat' apply And.intro) <;> omega) (by simp (disch:=omega) [Dj,Eo,Dg,Bh,Au,Bc,Cq,Aa]) (by simp [Dk])))
     | (
      have hT:=hT9 (by omega) (by omega)
      rw [hT] at h4 ht
      simp only at h4 ht
      rw [if_neg (by omega),if_neg (by omega)] at h4
      refine ⟨(i+(escR (s.drop i)).2,g,out ++ utf (escR (s.drop i)).1),⟨by simp only;omega,by simp only;omega,by simp only;omega,by simp only [List.length_append];omega,h4⟩,by simp only;omega,?_⟩
      simp only;rw [Tc (hnn _),Rc,List.length_append];exact (St.le_slots (by simp only [Ck,Cm,Ac,Bj,Au,Nat.reduceEqDiff,reduceIte,Nat.reduceLT,Nat.reduceLeDiff];simp (disch:=omega) [Au,Bc,Cq,Aa] <;> (repeat' apply And.intro) <;> omega) (by simp (disch:=omega) [Dj,Eo,Dg,Bh,Au,Bc,Cq,Aa]) (by simp [Dk])))
end Go.LX
