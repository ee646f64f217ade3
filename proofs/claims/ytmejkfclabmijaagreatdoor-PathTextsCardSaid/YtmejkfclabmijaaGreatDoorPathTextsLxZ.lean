/- Paths: a step, as the document reads it. -/
import Derived.Test.YtmejkfclabmijaaGreatDoorPathTextsLxY
set_option linter.unusedSimpArgs false
set_option linter.unusedVariables false
set_option linter.unusedSectionVars false
set_option linter.unnecessarySimpa false
set_option maxRecDepth 100000
set_option maxHeartbeats 2000000
namespace Go.LX
open Go Go.RowKit Go.Proofs
attribute [local irreducible] B2 SWP Hb
def Pp (s:List UInt8) (j:Nat):Prop:=letP (at_ s j)∨(0<j∧figP (at_ s j))
instance (s:List UInt8) (j:Nat):Decidable (Pp s j):=inferInstanceAs (Decidable (_∨_))
theorem Jjh (s:List UInt8):∀ f i,i≤s.length→s.length+1≤i+f→(∀ j,i≤j→j<wF s f i→Pp s j)∧(wF s f i<s.length→¬ Pp s (wF s f i))
 | 0,i,h,h2=>by omega
 | f+1,i,h,h2=>by
  rw [wF]
  split
  ·rename_i hc
   obtain ⟨g1,g2⟩:=Jjh s f (i+1) (by omega) (by omega)
   refine ⟨fun j h3 h4=>?_,g2⟩
   by_cases hj:j=i
   ·subst hj;exact hc.2
   ·exact g1 j (by omega) h4
  ·rename_i hc
   exact ⟨fun j h3 h4=>by omega,fun hl hg=>hc ⟨hl,hg⟩⟩
theorem P1 {s:List UInt8} {j:Nat} (h:j<Kw s):Pp s j:=(Jjh s (s.length+1) 0 (Nat.zero_le _) (by omega)).1 j (Nat.zero_le _) h
theorem Xq {s:List UInt8} (h:Kw s<s.length):¬ Pp s (Kw s):=(Jjh s (s.length+1) 0 (Nat.zero_le _) (by omega)).2 h
theorem Jpd {s:List UInt8} {m j:Nat} (h:j<m):at_ (s.take m) j=at_ s j:=by
 simp only [at_,List.getD_eq_getElem?_getD]
 rw [List.getElem?_take_of_lt h]
theorem Z0 {u:List UInt8} {j:Nat} (hj:j<u.length) (hw:j≤Kw u):isWd (u.take (j+1)) ↔ j<Kw u:=by
 have hl:(u.take (j+1)).length=j+1:=by rw [List.length_take];omega
 have hle:=Sz (u.take (j+1))
 have hne:u.take (j+1)≠[]:=fun e=>by rw [e] at hl;simp at hl
 have hat:∀ x,x<j+1→(Pp (u.take (j+1)) x ↔ Pp u x):=fun x hx=>by unfold Pp;rw [Jpd hx]
 constructor
 ·rintro ⟨_,h⟩
  rw [hl] at h
  have h1:=(hat j (by omega)).1 (P1 (by omega))
  apply Decidable.byContradiction
  intro hn
  have e:Kw u=j:=by omega
  exact Xq (s:=u) (by omega) (by rw [e];exact h1)
 ·intro h
  refine ⟨hne,?_⟩
  apply Decidable.byContradiction
  intro hn
  have hlt:Kw (u.take (j+1))<j+1:=by omega
  exact Xq (s:=u.take (j+1)) (by omega) ((hat _ hlt).2 (P1 (by omega)))
def N5 (s:List UInt8) (i:Nat) (first:Bool):Step×Nat :=
 if (Gz (s.drop i)).2≠0 then Gz (s.drop i)
 else if first=true then (if (i<s.length∧at_ s i=46)∧(Ro s (i+1)).2≠0 then ((Ro s (i+1)).1,(Ro s (i+1)).2+1) else (J6,0))
 else if i<s.length∧at_ s i=46 then (J6,0) else Ro s i
theorem X5 {s:List UInt8} {i:Nat}:(s.drop i).take 1=[46] ↔ (i<s.length∧at_ s i=46):=by
 constructor
 ·intro h
  have hl:i<s.length:=by
   apply Decidable.byContradiction
   intro hn
   rw [List.drop_eq_nil_of_le (by omega)] at h
   cases h
  rw [List.drop_eq_getElem_cons hl,List.take_succ_cons,List.take_zero] at h
  have:s[i]=46:=by simpa using h
  exact ⟨hl,by rw [Wt (List.getElem?_eq_getElem hl),this];rfl⟩
 ·rintro ⟨hl,ha⟩
  rw [List.drop_eq_getElem_cons hl,List.take_succ_cons,List.take_zero]
  congr 1
  exact UInt8.toNat_inj.1 (by rw [← Wt (List.getElem?_eq_getElem hl),ha];rfl)
theorem Jih {s:List UInt8} {i:Nat} (h:i≤s.length):i≤(figS s i).2∧(figS s i).2≤s.length∧(figS s i).1≤1000000∧-1≤(figS s i).1:=by
 have:=(Jb8 7 (s.drop i)).2
 rw [List.length_drop] at this
 unfold figS
 split
 ·exact ⟨Nat.le_refl _,h,by simp,by simp⟩
 ·simp only;omega
theorem Jll {s:List UInt8} {i:Nat} (h:¬ (i<s.length∧at_ s i=91∧0≤(figS s (i+1)).1∧(figS s (i+1)).2<s.length∧at_ s (figS s (i+1)).2=93)):Ro s i=(J6,0):=by
 unfold Ro
 by_cases h1:i<s.length∧at_ s i=91
 ·rw [if_pos h1,if_neg (fun h2=>h ⟨h1.1,h1.2,h2⟩)]
 ·rw [if_neg h1]
theorem Jf2 {s:List UInt8} {i:Nat} (h:i<s.length∧at_ s i=91∧0≤(figS s (i+1)).1∧(figS s (i+1)).2<s.length∧at_ s (figS s (i+1)).2=93):Ro s i=(⟨true,[],(figS s (i+1)).1⟩,(figS s (i+1)).2+1 - i):=by
 unfold Ro
 rw [if_pos ⟨h.1,h.2.1⟩,if_pos h.2.2]
theorem Jhx (s:List UInt8) (i:Nat) (first:Bool) (hs:s.length≤1000000) (hi:i≤s.length) (hd:¬ (i<s.length∧at_ s i=46)):Det cx 114 [.p (.str s),.p (.int .i64 i),.p (.bool first)] [] (.tup [.agg (N5 s i first).1.cells,.int .i64 (i+(N5 s i first).2:Nat)]) []:=by
 have hf:(Gz (s.drop i)).2=0:=by unfold Gz;rw [if_neg (fun h=>hd (X5.1 h))]
 have e:N5 s i first=if first=true then (J6,0) else Ro s i:=by
  unfold N5
  rw [if_neg (by omega),if_neg (c:=(i<s.length∧at_ s i=46)∧_) (fun h=>hd h.1),if_neg hd]
 rw [e]
 cases first
 ·rw [if_neg (by simp)]
  skip
  (refine B2.of_code (X:=cx) false [] (by simp) Tryz.func114 (by kernel_rfl) rfl (by simp only [List.length_cons,List.length_nil,Tryz.ntmps114];decide) (by simp) ?_;refine Ax hm _ _ _ ?_;simp only [Tryz.ntmps114,Tryz.results114,Cb,Ah,Bm,Br,Ce,He,Cn,Ab,B3,Bd,A1,Da,Bc,D9,C1,Ct,Bf,A0,Ch,Cw,Ca,A9,Aj,B8,D0,Fk,I7,Ka,Dw,Hv,Cg,Bo,Bq,C2,Dq,Db,D1,Dn,Au,Bt,Ar,E8,G0,Kx,Dm,Lc,Ds,Dl,Ib,Hf,Jb,C5,F7,G1,Jc,J9,Hr,Gy,Hw,Cu,E5,Iz,Fj,Ii,Ef,Ag,Ae,A3,Cf,Bv,Bi,Bz,Bx,A4,B6,Bh,Az,A5,Bs,Cs,Cr,A6,A7,Ij,B9,Av,Ap,Al,B7,B5,Af,Am,Ao,Gq,Cy,Ay,Aw,B4,Cp,Ez,Cl,C7,El,Cz,F1,A2,Ad,Ac,Bn,Bg,Bb,argW,List.map_cons,List.map_nil,List.getD_cons_zero,List.getD_cons_succ,List.length_cons,List.length_nil,List.nil_append,List.append_nil,List.flatMap_cons,List.flatMap_nil,List.take_succ_cons,List.take_zero,List.take_nil,List.drop_succ_cons,List.drop_zero,List.drop_nil,decide_eq_true_eq,beq_iff_eq,bne_iff_ne,ne_eq,not_false_eq_true,Nat.reduceLT,Nat.reduceLeDiff,Nat.reduceEqDiff,Nat.reduceAdd,true_and,and_true,Cc,Bw,↓reduceIte,reduceCtorEq,Int.toNat_natCast,Int.natCast_nonneg,Nat.zero_add,PV.agg.injEq,PV.int.injEq,L.tup.injEq,List.cons.injEq,Bool.false_eq_true,Bool.true_and,Bool.and_true,Bool.or_false,Bool.or_true,Hi,J0,Jm,L8,Jy,wi1 (i:=i) (by omega)])
  (repeat' (first | (refine iteI (fun h=>?_) (fun h=>?_))|(refine B1 (by first | omega | (simp (disch:=omega) only [Aa,Ak,Ai] at *;omega)) ?_;intro b hb)|(refine And.intro (by first | omega | (simp (disch:=omega) only [Aa,Ak,Ai] at *;omega)) ?_)|((first | (refine Ba hm (by rfl) (by kernel_rfl) ?_)|(refine Det.use (V2 s (i+1) hs (by omega)) ?_)|(refine Det.useQ (V2 s (i+1) hs (by omega)) ?_));simp only [Cb,Ah,Bm,Br,Cn,Ab,B3,Bd,A1,Da,Bc,D9,C1,Ct,Bf,A0,Cw,Ca,A9,Aj,B8,D0,Fk,I7,Ek,Ka,Dw,Bo,Bl,Bq,C2,Dq,D1,Dn,Au,Bt,Ar,E8,Kx,Dm,Lc,Ds,Dl,G8,Ib,Hf,Jb,C5,F7,G1,Eb,Jc,J9,Hr,Io,Qk,Mh,E5,Iz,Fj,Ii,Ef,Ag,Ae,A3,Bp,Et,Bs,Cs,Cr,A6,A7,Ij,B9,Av,Ap,Al,B7,B5,Af,Am,Ao,Gq,Cy,Ay,Aw,Cp,C7,El,Cz,F1,A2,Ad,Ac,List.map_cons,List.map_nil,List.getD_cons_zero,List.getD_cons_succ,List.length_cons,List.length_nil,List.nil_append,List.append_nil,List.take_succ_cons,List.take_zero,List.take_nil,List.drop_succ_cons,List.drop_zero,List.drop_nil,List.set_cons_zero,List.set_cons_succ,List.getElem?_cons_zero,List.getElem?_cons_succ,decide_eq_true_eq,bne_iff_ne,ne_eq,not_false_eq_true,Nat.reduceLT,Nat.reduceLeDiff,Nat.reduceEqDiff,Nat.reduceAdd,true_and,and_true,Cc,↓reduceIte,reduceCtorEq,Int.toNat_natCast,Int.natCast_nonneg,Nat.zero_add,PV.agg.injEq,PV.int.injEq,L.tup.injEq,List.cons.injEq,Bool.false_eq_true,Bool.true_and,Bool.and_true,Bool.or_false,Bool.or_true,and_self,Mm,M1,Hi,J0,Jm,Jj,L6,L8,Jy,wi1 (i:=i) (by omega)])|(exact True.intro)|(exfalso;omega)))
  all_goals first
   | (rw [Jll (by omega)];exact ⟨rfl,rfl⟩)
   | (
    have hl:=Jih (s:=s) (i:=i+1) (by omega)
    rw [Jf2 (by omega),Aa (by omega) (by omega)]
    refine ⟨rfl,?_⟩
    simp only
    omega)
 ·(refine B2.of_code (X:=cx) false [] (by simp) Tryz.func114 (by kernel_rfl) rfl (by simp only [List.length_cons,List.length_nil,Tryz.ntmps114];decide) (by simp) ?_;refine Ax hm _ _ _ ?_;simp only [Tryz.ntmps114,Tryz.results114,Ah,Bm,Br,Ce,He,Cn,Ab,B3,Bd,A1,Da,Bc,D9,C1,Ct,Bf,A0,Cw,Ca,A9,Aj,B8,D0,Fk,I7,Ka,Dw,Hv,Bo,Bq,C2,Dq,Db,Dn,Au,Bt,Ar,E8,G0,Dm,Ds,Dl,Ib,Hf,Jb,C5,F7,G1,Jc,J9,Hr,Gy,Hw,Cu,E5,Iz,Fj,Ii,Ef,Ag,Ae,A3,Bs,Cs,Cr,A6,A7,Ij,B9,Av,Ap,Al,B7,B5,Af,Am,Ao,Gq,Cy,Ay,Aw,B4,Cp,Ez,C7,El,Cz,F1,A2,Ad,Ac,Bn,Bg,Bb,argW,List.map_cons,List.map_nil,List.getD_cons_zero,List.getD_cons_succ,List.length_cons,List.length_nil,List.nil_append,List.append_nil,List.take_succ_cons,List.take_zero,List.take_nil,List.drop_succ_cons,List.drop_zero,List.drop_nil,decide_eq_true_eq,beq_iff_eq,ne_eq,not_false_eq_true,Nat.reduceLT,Nat.reduceLeDiff,Nat.reduceEqDiff,Nat.reduceAdd,true_and,and_true,Cc,↓reduceIte,reduceCtorEq,Int.toNat_natCast,Int.natCast_nonneg,Nat.zero_add,PV.agg.injEq,PV.int.injEq,L.tup.injEq,List.cons.injEq,Bool.false_eq_true,Bool.true_and,Bool.and_true,Bool.or_false,Bool.or_true,Hi,J0,Jm,L8,Jy,wi1 (i:=i) (by omega)])
  (repeat' (first | (refine iteI (fun h=>?_) (fun h=>?_))|(refine B1 (by first | omega | (simp (disch:=omega) only [Aa,Ak,Ai] at *;omega)) ?_;intro b hb)|(refine And.intro (by first | omega | (simp (disch:=omega) only [Aa,Ak,Ai] at *;omega)) ?_)|((first | (refine Ba hm (by rfl) (by kernel_rfl) ?_));simp only [Dh])|(exact True.intro)|(exfalso;omega)))
  all_goals exact ⟨rfl,rfl⟩
theorem Jm1 (s:List UInt8) (i:Nat) (first:Bool) (hs:s.length≤1000000) (hi:i<s.length) (hd:at_ s i=46):Det cx 114 [.p (.str s),.p (.int .i64 i),.p (.bool first)] [] (.tup [.agg (N5 s i first).1.cells,.int .i64 (i+(N5 s i first).2:Nat)]) []:=by
 have hdot:=X5.2 ⟨hi,hd⟩
 have hdr:(s.drop i).drop 1=s.drop (i+1):=by rw [List.drop_drop]
 have hwl:=Sz (s.drop (i+1))
 have hlen:(s.drop (i+1)).length=s.length - (i+1):=List.length_drop
 rw [hlen] at hwl
 skip
 (refine B2.of_code (X:=cx) false [] (by simp) Tryz.func114 (by kernel_rfl) rfl (by simp only [List.length_cons,List.length_nil,Tryz.ntmps114];decide) (by simp) ?_;refine Ax hm _ _ _ ?_;simp only [Tryz.ntmps114,Tryz.results114,Cb,Ah,Bm,Br,Ce,He,Cn,Ab,B3,Bd,A1,Da,Bc,D9,C1,Ct,Bf,A0,Ch,Cw,Ca,A9,Aj,B8,D0,Fk,I7,Ka,Dw,Hv,Cg,Bo,Bq,C2,Dq,Db,D1,Dn,Au,Bt,Ar,E8,G0,Kx,Dm,Lc,Ds,Dl,Ib,Hf,Jb,C5,F7,G1,Jc,J9,Hr,Gy,Hw,Cu,E5,Iz,Fj,Ii,Ef,Ag,Ae,A3,Cf,Bv,Bi,Bz,Bx,A4,B6,Bh,Az,A5,Bs,Cs,Cr,A6,A7,Ij,B9,Av,Ap,Al,B7,B5,Af,Am,Ao,Gq,Cy,Ay,Aw,B4,Cp,Ez,Cl,C7,El,Cz,F1,A2,Ad,Ac,Bn,Bg,Bb,argW,List.map_cons,List.map_nil,List.getD_cons_zero,List.getD_cons_succ,List.length_cons,List.length_nil,List.nil_append,List.append_nil,List.flatMap_cons,List.flatMap_nil,List.take_succ_cons,List.take_zero,List.take_nil,List.drop_succ_cons,List.drop_zero,List.drop_nil,decide_eq_true_eq,beq_iff_eq,bne_iff_ne,ne_eq,not_false_eq_true,Nat.reduceLT,Nat.reduceLeDiff,Nat.reduceEqDiff,Nat.reduceAdd,true_and,and_true,Cc,Bw,↓reduceIte,reduceCtorEq,Int.toNat_natCast,Int.natCast_nonneg,Nat.zero_add,PV.agg.injEq,PV.int.injEq,L.tup.injEq,List.cons.injEq,Bool.false_eq_true,Bool.true_and,Bool.and_true,Bool.or_false,Bool.or_true,Hi,J0,Jm,L8,Jy,wi1 (i:=i) (by omega)])
 (repeat' (first | (refine iteI (fun h=>?_) (fun h=>?_))|(refine B1 (by first | omega | (simp (disch:=omega) only [Aa,Ak,Ai] at *;omega)) ?_;intro b hb)|(refine And.intro (by first | omega | (simp (disch:=omega) only [Aa,Ak,Ai] at *;omega)) ?_)|((first | (refine Ba hm (by rfl) (by kernel_rfl) ?_));simp only [Dh])|(exact True.intro)|(exfalso;omega)))
 refine SWP.loop (fun k:Nat=>⟨Fp 129 [(0,.p (.str s)),(1,.p (.int .i64 (i+1:Nat))),(2,.p (.bool first)),(6,.ptr 6 0 0),(8,.p (.int .i64 i)),(9,.p (.int .i64 (i+1+k:Nat)))],[(6,.var 47 [.p (.bool false),.p (.str []),.p (.int .i64 0)])]⟩) (fun k=>k≤Kw (s.drop (i+1))) (fun k=>Kw (s.drop (i+1)) - k) 0 (St.le_slots (by simp only [Cd,Ck,Ac,Be,Aq,Nat.reduceEqDiff,reduceIte,Nat.reduceLT,Nat.reduceLeDiff];simp (disch:=omega) [Aq,A8,Cm,Aa] <;> (repeat' apply And.intro) <;> omega) (by simp (disch:=omega) [Dc,Ee,C9,Bj,Aq,A8,Cm,Aa]) (by simp [De])) (Nat.zero_le _) ?_
 intro k hk
 have hsub:i+1+k+1 - (i+1)=k+1:=by omega
 have hw1:=wi1 (i:=i+1+k) (by omega)
 by_cases hlt:k<Kw (s.drop (i+1))
 ·have hW:decide (isWd ((s.drop (i+1)).take (k+1)))=true:=decide_eq_true ((Z0 (by omega) hk).2 hlt)
  skip
  (refine Ax hm _ _ _ ?_;simp only [Cb,Ah,Bm,Br,Eh,Cn,Ab,Ci,B3,B0,Bd,A1,Da,Bc,D9,C1,Bf,A0,Ch,Cw,Ca,A9,Aj,B8,D0,Fk,E7,Ka,Dw,Cg,Bo,Bq,C2,Dq,Db,Dn,Au,Bt,Ar,E8,Dm,Je,Ds,Dl,Jb,C5,F7,G1,Ev,D5,E2,H4,La,Gf,Jc,J9,Hr,Io,K6,E5,Iz,Fj,Ii,Ef,Ag,Ae,A3,Cf,Bv,Bi,Bz,Bx,A4,B6,Bh,Az,A5,Bs,Cs,Cr,A6,A7,Ij,B9,Av,Ap,Al,B7,B5,Af,Am,Ao,Gq,Cy,Ay,Aw,Cp,Cl,C7,El,Cz,F1,A2,Ad,Ac,Dy,List.map_cons,List.map_nil,List.getD_cons_zero,List.getD_cons_succ,List.length_cons,List.length_nil,List.nil_append,List.append_nil,List.flatMap_cons,List.flatMap_nil,List.take_succ_cons,List.take_zero,List.take_nil,List.drop_succ_cons,List.drop_zero,List.drop_nil,List.set_cons_zero,List.set_cons_succ,decide_eq_true_eq,ne_eq,not_false_eq_true,Nat.reduceLT,Nat.reduceLeDiff,Nat.reduceEqDiff,Nat.reduceAdd,true_and,and_true,Cc,Bw,↓reduceIte,reduceCtorEq,Int.toNat_natCast,Int.natCast_nonneg,Nat.zero_add,PV.agg.injEq,PV.int.injEq,L.tup.injEq,List.cons.injEq,Bool.false_eq_true,Bool.true_and,Bool.and_true,Bool.or_false,Bool.or_true,and_self,Hi,Kg,J0,Jm,Iq,L8,Jy,wi1 (i:=i) (by omega),hsub,hw1])
  (repeat' (first | (refine iteI (fun h=>?_) (fun h=>?_))|(refine B1 (by first | omega | (simp (disch:=omega) only [Aa,Ak,Ai] at *;omega)) ?_;intro b hb)|(refine And.intro (by first | omega | (simp (disch:=omega) only [Aa,Ak,Ai] at *;omega)) ?_)|((first | (refine Ba hm (by rfl) (by kernel_rfl) ?_)|(refine Det.use (K1 ((s.drop (i+1)).take (k+1)) (by rw [List.length_take];omega)) ?_)|(refine Det.useQ (K1 ((s.drop (i+1)).take (k+1)) (by rw [List.length_take];omega)) ?_));simp only [Cb,Ah,Br,Ce,Ab,Bk,Bd,A1,Bc,Ct,Bf,A0,Cw,Ca,A9,Aj,B8,D0,Bq,Dn,Au,Bt,Ar,E8,Bp,B6,Ad,Ac,Dy,List.map_cons,List.map_nil,Nat.reduceLT,Nat.reduceEqDiff,Cc,↓reduceIte,reduceCtorEq,Bool.or_true,wi1 (i:=i) (by omega),hw1,hW])|(exact True.intro)|(exfalso;omega)))
  exact ⟨k+1,by omega,by omega,(St.le_slots (by simp only [Cd,Ck,Ac,Be,Aq,Nat.reduceEqDiff,reduceIte,Nat.reduceLT,Nat.reduceLeDiff];simp (disch:=omega) [Aq,A8,Cm,Aa] <;> (repeat' apply And.intro) <;> omega) (by simp (disch:=omega) [Dc,Ee,C9,Bj,Aq,A8,Cm,Aa]) (by simp [De]))⟩
 ·have hkw:k=Kw (s.drop (i+1)):=by omega
  by_cases hk0:0<k
  ·have ef:Gz (s.drop i)=(⟨false,(s.drop (i+1)).take k,0⟩,k+1):=by
    unfold Gz
    rw [if_pos hdot,hdr,if_pos (by omega),hkw]
   have e:N5 s i first=(⟨false,(s.drop (i+1)).take k,0⟩,k+1):=by
    unfold N5
    rw [ef,if_pos (Nat.succ_ne_zero _)]
   have hfin:([PV.bool false,PV.str (List.take (i+1+k - (i+1)) (List.drop (i+1) s)),PV.int IntKind.i64 0]=(N5 s i first).1.cells∧((i+1+k:Nat):Int)=((i+(N5 s i first).2:Nat):Int)):=by
    rw [e]
    refine ⟨?_,?_⟩
    ·rw [show i+1+k - (i+1)=k by omega];rfl
    ·simp only;omega
   by_cases hend:i+1+k<s.length
   ·have hW:decide (isWd ((s.drop (i+1)).take (k+1)))=false:=decide_eq_false (fun h=>hlt ((Z0 (by omega) hk).1 h))
    (refine Ax hm _ _ _ ?_;simp only [Cb,Ah,Bm,Br,Eh,Cn,Ab,Ci,B3,B0,Bd,A1,Da,Bc,D9,C1,Bf,A0,Ch,Cw,Ca,A9,Aj,B8,D0,Fk,E7,Ka,Dw,Cg,Bo,Bq,C2,Dq,Db,Dn,Au,Bt,Ar,E8,Dm,Je,Ds,Dl,Jb,C5,F7,G1,Ev,D5,E2,H4,La,Gf,Jc,J9,Hr,Io,K6,E5,Iz,Fj,Ii,Ef,Ag,Ae,A3,Cf,Bv,Bi,Bz,Bx,A4,B6,Bh,Az,A5,Bs,Cs,Cr,A6,A7,Ij,B9,Av,Ap,Al,B7,B5,Af,Am,Ao,Gq,Cy,Ay,Aw,Cp,Cl,C7,El,Cz,F1,A2,Ad,Ac,Dy,List.map_cons,List.map_nil,List.getD_cons_zero,List.getD_cons_succ,List.length_cons,List.length_nil,List.nil_append,List.append_nil,List.flatMap_cons,List.flatMap_nil,List.take_succ_cons,List.take_zero,List.take_nil,List.drop_succ_cons,List.drop_zero,List.drop_nil,List.set_cons_zero,List.set_cons_succ,decide_eq_true_eq,ne_eq,not_false_eq_true,Nat.reduceLT,Nat.reduceLeDiff,Nat.reduceEqDiff,Nat.reduceAdd,true_and,and_true,Cc,Bw,↓reduceIte,reduceCtorEq,Int.toNat_natCast,Int.natCast_nonneg,Nat.zero_add,PV.agg.injEq,PV.int.injEq,L.tup.injEq,List.cons.injEq,Bool.false_eq_true,Bool.true_and,Bool.and_true,Bool.or_false,Bool.or_true,and_self,Hi,Kg,J0,Jm,Iq,L8,Jy,wi1 (i:=i) (by omega),hsub,hw1])
    (repeat' (first | (refine iteI (fun h=>?_) (fun h=>?_))|(refine B1 (by first | omega | (simp (disch:=omega) only [Aa,Ak,Ai] at *;omega)) ?_;intro b hb)|(refine And.intro (by first | omega | (simp (disch:=omega) only [Aa,Ak,Ai] at *;omega)) ?_)|((first | (refine Ba hm (by rfl) (by kernel_rfl) ?_)|(refine Det.use (K1 ((s.drop (i+1)).take (k+1)) (by rw [List.length_take];omega)) ?_)|(refine Det.useQ (K1 ((s.drop (i+1)).take (k+1)) (by rw [List.length_take];omega)) ?_));simp only [Cb,Ah,Bm,Br,Eh,Cn,Ab,Ci,B3,B0,Bd,A1,Bc,C1,Ct,Bf,A0,Ch,Cw,A9,Aj,B8,D0,Fk,E7,Ka,Cg,Bo,Bq,Dn,Au,Ar,Je,Jb,C5,F7,G1,Ev,D5,E2,H4,La,Gf,Jc,J9,Hr,Io,K6,E5,Iz,Fj,Ii,Ef,Ag,Ae,A3,Cf,Bv,Bi,Bz,Bx,A4,Bp,B6,Bh,Az,A5,Bs,Cs,Cr,A6,A7,Ij,B9,Av,Ap,Al,B7,B5,Af,Am,Ao,Gq,Cy,Ay,Aw,Cp,Cl,C7,El,Cz,F1,A2,Ad,Ac,Dy,List.map_cons,List.map_nil,List.length_cons,List.length_nil,List.nil_append,List.append_nil,List.flatMap_cons,List.flatMap_nil,List.take_succ_cons,List.take_zero,List.take_nil,List.drop_succ_cons,List.drop_zero,List.drop_nil,List.set_cons_zero,List.set_cons_succ,decide_eq_true_eq,ne_eq,not_false_eq_true,Nat.reduceLT,Nat.reduceLeDiff,Nat.reduceEqDiff,Nat.reduceAdd,true_and,and_true,Cc,Bw,↓reduceIte,reduceCtorEq,Int.toNat_natCast,Int.natCast_nonneg,Nat.zero_add,PV.agg.injEq,PV.int.injEq,L.tup.injEq,List.cons.injEq,Bool.false_eq_true,Bool.true_and,Bool.and_true,Bool.or_false,and_self,Hi,Kg,J0,Jm,Iq,L8,Jy,wi1 (i:=i) (by omega),hW])|(exact True.intro)|(exfalso;omega)))
    exact hfin
   ·have hW:=hw1
    (refine Ax hm _ _ _ ?_;simp only [Cb,Ah,Bm,Br,Eh,Cn,Ab,Ci,B3,B0,Bd,A1,Da,Bc,D9,C1,Bf,A0,Ch,Cw,Ca,A9,Aj,B8,D0,Fk,E7,Ka,Dw,Cg,Bo,Bq,C2,Dq,Db,Dn,Au,Bt,Ar,E8,Dm,Je,Ds,Dl,Jb,C5,F7,G1,Ev,D5,E2,H4,La,Gf,Jc,J9,Hr,Io,K6,E5,Iz,Fj,Ii,Ef,Ag,Ae,A3,Cf,Bv,Bi,Bz,Bx,A4,B6,Bh,Az,A5,Bs,Cs,Cr,A6,A7,Ij,B9,Av,Ap,Al,B7,B5,Af,Am,Ao,Gq,Cy,Ay,Aw,Cp,Cl,C7,El,Cz,F1,A2,Ad,Ac,Dy,List.map_cons,List.map_nil,List.getD_cons_zero,List.getD_cons_succ,List.length_cons,List.length_nil,List.nil_append,List.append_nil,List.flatMap_cons,List.flatMap_nil,List.take_succ_cons,List.take_zero,List.take_nil,List.drop_succ_cons,List.drop_zero,List.drop_nil,List.set_cons_zero,List.set_cons_succ,decide_eq_true_eq,ne_eq,not_false_eq_true,Nat.reduceLT,Nat.reduceLeDiff,Nat.reduceEqDiff,Nat.reduceAdd,true_and,and_true,Cc,Bw,↓reduceIte,reduceCtorEq,Int.toNat_natCast,Int.natCast_nonneg,Nat.zero_add,PV.agg.injEq,PV.int.injEq,L.tup.injEq,List.cons.injEq,Bool.false_eq_true,Bool.true_and,Bool.and_true,Bool.or_false,Bool.or_true,and_self,Hi,Kg,J0,Jm,Iq,L8,Jy,wi1 (i:=i) (by omega),hsub,hw1])
    (repeat' (first | (refine iteI (fun h=>?_) (fun h=>?_))|(refine B1 (by first | omega | (simp (disch:=omega) only [Aa,Ak,Ai] at *;omega)) ?_;intro b hb)|(refine And.intro (by first | omega | (simp (disch:=omega) only [Aa,Ak,Ai] at *;omega)) ?_)|((first | (refine Ba hm (by rfl) (by kernel_rfl) ?_));simp only [Dh])|(exact True.intro)|(exfalso;omega)))
    exact hfin
  ·have hk1:k=0:=by omega
   subst hk1
   have hdl:(s.drop (i+1)).length≤1000000:=by omega
   obtain ⟨u1,u2,u3⟩:=Jmq (s.drop (i+1))
   rw [hlen] at u2 u3
   have hsub:i+1+0+1 - (i+1)=1:=by omega
   have hsubq:i+1+(uq (s.drop (i+1))).2.1 - (i+1)=(uq (s.drop (i+1))).2.1:=by omega
   have hwq:=wia (i:=i+1) (j:=(uq (s.drop (i+1))).2.1) (by omega) (by omega)
   have hG:(uq (s.drop (i+1))).2.2=0→¬ isWd (uq (s.drop (i+1))).1→refQ (uq (s.drop (i+1))).1=(s.drop (i+1)).take (uq (s.drop (i+1))).2.1→N5 s i first=(⟨false,(uq (s.drop (i+1))).1,0⟩,(uq (s.drop (i+1))).2.1+1):=fun g1 g2 g3=>by
    have ef:Gz (s.drop i)=(⟨false,(uq (s.drop (i+1))).1,0⟩,(uq (s.drop (i+1))).2.1+1):=by
     unfold Gz
     rw [if_pos hdot,hdr,if_neg (by omega),if_neg]
     rintro (h | h | h)
     ·exact h g1
     ·exact g2 h
     ·exact h g3
    unfold N5
    rw [ef,if_pos (Nat.succ_ne_zero _)]
   have hB:¬ ((uq (s.drop (i+1))).2.2=0∧¬ isWd (uq (s.drop (i+1))).1∧refQ (uq (s.drop (i+1))).1=(s.drop (i+1)).take (uq (s.drop (i+1))).2.1)→N5 s i first=if first=true then (if (Ro s (i+1)).2≠0 then ((Ro s (i+1)).1,(Ro s (i+1)).2+1) else (J6,0)) else (J6,0):=fun hb=>by
    have ef:Gz (s.drop i)=(J6,0):=by
     unfold Gz
     rw [if_pos hdot,hdr,if_neg (by omega),if_pos]
     apply Decidable.byContradiction
     intro hn
     refine hb ⟨?_,?_,?_⟩
     ·exact Decidable.byContradiction fun h=>hn (.inl h)
     ·exact fun h=>hn (.inr (.inl h))
     ·exact Decidable.byContradiction fun h=>hn (.inr (.inr h))
    unfold N5
    rw [ef,if_neg (fun h=>h rfl),if_pos (c:=i<s.length∧at_ s i=46) ⟨hi,hd⟩]
    by_cases hp:(Ro s (i+1)).2≠0
    ·rw [if_pos hp,if_pos (c:=(i<s.length∧at_ s i=46)∧_) ⟨⟨hi,hd⟩,hp⟩]
    ·rw [if_neg hp,if_neg (c:=(i<s.length∧at_ s i=46)∧_) (fun h=>hp h.2)]
   have hB1:¬ ((uq (s.drop (i+1))).2.2=0∧¬ isWd (uq (s.drop (i+1))).1∧refQ (uq (s.drop (i+1))).1=(s.drop (i+1)).take (uq (s.drop (i+1))).2.1)→first=false→N5 s i first=(J6,0):=fun hb hf=>by rw [hB hb,hf,if_neg (by simp)]
   have hB2:¬ ((uq (s.drop (i+1))).2.2=0∧¬ isWd (uq (s.drop (i+1))).1∧refQ (uq (s.drop (i+1))).1=(s.drop (i+1)).take (uq (s.drop (i+1))).2.1)→¬ first=false→¬ (i+1<s.length∧at_ s (i+1)=91∧0≤(figS s (i+1+1)).1∧(figS s (i+1+1)).2<s.length∧at_ s (figS s (i+1+1)).2=93)→N5 s i first=(J6,0):=fun hb hf h=>by
    rw [hB hb,Jll h]
    cases first <;> rfl
   have hB3:¬ ((uq (s.drop (i+1))).2.2=0∧¬ isWd (uq (s.drop (i+1))).1∧refQ (uq (s.drop (i+1))).1=(s.drop (i+1)).take (uq (s.drop (i+1))).2.1)→¬ first=false→(i+1<s.length∧at_ s (i+1)=91∧0≤(figS s (i+1+1)).1∧(figS s (i+1+1)).2<s.length∧at_ s (figS s (i+1+1)).2=93)→N5 s i first=(⟨true,[],(figS s (i+1+1)).1⟩,(figS s (i+1+1)).2+1 - (i+1)+1):=fun hb hf h=>by
    have hl:=Jih (s:=s) (i:=i+1+1) (by omega)
    rw [hB hb,Jf2 h,if_pos (by cases first <;> simp_all),if_pos (by simp only;omega)]
   have hwi:IntKind.i64.wrap ((i+1:Nat)+1:Int)=((i+1+1:Nat):Int):=wi1 (by omega)
   by_cases hend:i+1+0<s.length
   ·have hW:decide (isWd ((s.drop (i+1)).take (0+1)))=false:=decide_eq_false (fun h=>hlt ((Z0 (by omega) hk).1 h))
    have hl:=Jih (s:=s) (i:=i+1+1) (by omega)
    skip
    (refine Ax hm _ _ _ ?_;simp only [Cb,Ah,Bm,Br,Eh,Cn,Ab,Ci,B3,B0,Bd,A1,Da,Bc,D9,C1,Bf,A0,Ch,Cw,Ca,A9,Aj,B8,D0,Fk,E7,Ka,Dw,Cg,Bo,Bq,C2,Dq,Db,Dn,Au,Bt,Ar,E8,Dm,Je,Ds,Dl,Jb,C5,F7,G1,Ev,D5,E2,H4,La,Gf,Jc,J9,Hr,Io,K6,E5,Iz,Fj,Ii,Ef,Ag,Ae,A3,Cf,Bv,Bi,Bz,Bx,A4,B6,Bh,Az,A5,Bs,Cs,Cr,A6,A7,Ij,B9,Av,Ap,Al,B7,B5,Af,Am,Ao,Gq,Cy,Ay,Aw,Cp,Cl,C7,El,Cz,F1,A2,Ad,Ac,Dy,List.map_cons,List.map_nil,List.getD_cons_zero,List.getD_cons_succ,List.length_cons,List.length_nil,List.nil_append,List.append_nil,List.flatMap_cons,List.flatMap_nil,List.take_succ_cons,List.take_zero,List.take_nil,List.drop_succ_cons,List.drop_zero,List.drop_nil,List.set_cons_zero,List.set_cons_succ,decide_eq_true_eq,ne_eq,not_false_eq_true,Nat.reduceLT,Nat.reduceLeDiff,Nat.reduceEqDiff,Nat.reduceAdd,true_and,and_true,Cc,Bw,↓reduceIte,reduceCtorEq,Int.toNat_natCast,Int.natCast_nonneg,Nat.zero_add,PV.agg.injEq,PV.int.injEq,L.tup.injEq,List.cons.injEq,Bool.false_eq_true,Bool.true_and,Bool.and_true,Bool.or_false,Bool.or_true,and_self,Hi,Kg,J0,Jm,Iq,L8,Jy,wi1 (i:=i) (by omega),hsub,hw1])
    (repeat' (first | (refine iteI (fun h=>?_) (fun h=>?_))|(refine B1 (by first | omega | (simp (disch:=omega) only [Aa,Ak,Ai] at *;omega)) ?_;intro b hb)|(refine And.intro (by first | omega | (simp (disch:=omega) only [Aa,Ak,Ai] at *;omega)) ?_)|((first | (refine Ba hm (by rfl) (by kernel_rfl) ?_)|(refine Det.use (K1 ((s.drop (i+1)).take (0+1)) (by rw [List.length_take];omega)) ?_)|(refine Det.useQ (K1 ((s.drop (i+1)).take (0+1)) (by rw [List.length_take];omega)) ?_)|(refine Det.use (Q7 (s.drop (i+1)) hdl) ?_)|(refine Det.useQ (Q7 (s.drop (i+1)) hdl) ?_)|(refine Det.use (K1 (uq (s.drop (i+1))).1 (by omega)) ?_)|(refine Det.useQ (K1 (uq (s.drop (i+1))).1 (by omega)) ?_)|(refine Det.use (P2 (uq (s.drop (i+1))).1 (by omega)) ?_)|(refine Det.useQ (P2 (uq (s.drop (i+1))).1 (by omega)) ?_)|(refine Det.use (V2 s (i+1+0+1) hs (by omega)) ?_)|(refine Det.useQ (V2 s (i+1+0+1) hs (by omega)) ?_));simp only [Cb,Ah,Bm,Br,Eh,Cn,Ab,Ci,B3,B0,Bd,A1,Da,Mv,Kf,M3,Jep,Bc,D9,C1,Ct,Bf,A0,Ch,Cw,Ca,A9,Aj,B8,N7,D0,Fk,I7,E7,Ek,Ka,Dw,Cg,Jn,M7,Jby,Pd,Pn,Ot,Bo,Bl,Ja,Bq,C2,Dq,Db,D1,Dn,Au,Ep,Bt,Ar,E8,G0,Kx,Dm,Je,Lc,Nh,J7,Ds,Dl,G8,Ib,Hf,Jb,C5,F7,G1,Ev,D5,E2,H4,La,Gf,Eb,Jc,J9,Hr,Io,Qk,Mh,K6,E5,Iz,Fj,Ii,Ef,Ag,Ae,A3,Cf,Bv,Bi,Bz,Bx,A4,Bp,B6,Et,Bh,Az,A5,Bs,Cs,Cr,A6,A7,Ij,B9,Av,Ap,Al,B7,B5,Af,Am,Ao,Gq,Cy,Ay,Aw,Cp,Cl,C7,El,Cz,F1,A2,Ad,Ac,Dy,List.map_cons,List.map_nil,List.getD_cons_zero,List.getD_cons_succ,List.length_cons,List.length_nil,List.nil_append,List.append_nil,List.flatMap_cons,List.flatMap_nil,List.take_succ_cons,List.take_zero,List.take_nil,List.drop_succ_cons,List.drop_zero,List.drop_nil,List.set_cons_zero,List.set_cons_succ,List.getElem?_cons_zero,List.getElem?_cons_succ,decide_eq_true_eq,beq_iff_eq,bne_iff_ne,decide_eq_false_iff_not,Bool.not_eq_eq_eq_not,ne_eq,not_false_eq_true,Nat.reduceLT,Nat.reduceLeDiff,Nat.reduceEqDiff,Nat.reduceAdd,true_and,and_true,Cc,Bw,↓reduceIte,reduceCtorEq,Int.toNat_natCast,Int.natCast_nonneg,Nat.zero_add,Bool.not_true,PV.agg.injEq,PV.int.injEq,L.tup.injEq,List.cons.injEq,Bool.false_eq_true,Bool.true_and,Bool.and_true,Bool.or_false,Bool.or_true,and_self,Mm,M1,Hi,Kg,J0,Jm,Jj,Iq,L6,L8,Jy,wi1 (i:=i) (by omega),hw1,hW,hsubq,hwq])|(exact True.intro)|(exfalso;omega)))
    all_goals simp only [Nat.add_zero] at *
    all_goals first
     | (exfalso;omega)
     | (rw [hG (by omega) (by assumption) (by assumption)];exact ⟨rfl,by simp only;omega⟩)
     | (rw [hB1 (fun ⟨a,b,c⟩=>by first | omega | (exact absurd b (by assumption))|(exact absurd c (by assumption))) (by assumption)];exact ⟨rfl,rfl⟩)
     | (rw [hB2 (fun ⟨a,b,c⟩=>by first | omega | (exact absurd b (by assumption))|(exact absurd c (by assumption))) (by assumption) (by omega)];exact ⟨rfl,rfl⟩)
     | (rw [hB3 (fun ⟨a,b,c⟩=>by first | omega | (exact absurd b (by assumption))|(exact absurd c (by assumption))) (by assumption) (by omega),Aa (by omega) (by omega)];exact ⟨rfl,by simp only;omega⟩)
   ·have hW:=hw1
    (refine Ax hm _ _ _ ?_;simp only [Cb,Ah,Bm,Br,Eh,Cn,Ab,Ci,B3,B0,Bd,A1,Da,Bc,D9,C1,Bf,A0,Ch,Cw,Ca,A9,Aj,B8,D0,Fk,E7,Ka,Dw,Cg,Bo,Bq,C2,Dq,Db,Dn,Au,Bt,Ar,E8,Dm,Je,Ds,Dl,Jb,C5,F7,G1,Ev,D5,E2,H4,La,Gf,Jc,J9,Hr,Io,K6,E5,Iz,Fj,Ii,Ef,Ag,Ae,A3,Cf,Bv,Bi,Bz,Bx,A4,B6,Bh,Az,A5,Bs,Cs,Cr,A6,A7,Ij,B9,Av,Ap,Al,B7,B5,Af,Am,Ao,Gq,Cy,Ay,Aw,Cp,Cl,C7,El,Cz,F1,A2,Ad,Ac,Dy,List.map_cons,List.map_nil,List.getD_cons_zero,List.getD_cons_succ,List.length_cons,List.length_nil,List.nil_append,List.append_nil,List.flatMap_cons,List.flatMap_nil,List.take_succ_cons,List.take_zero,List.take_nil,List.drop_succ_cons,List.drop_zero,List.drop_nil,List.set_cons_zero,List.set_cons_succ,decide_eq_true_eq,ne_eq,not_false_eq_true,Nat.reduceLT,Nat.reduceLeDiff,Nat.reduceEqDiff,Nat.reduceAdd,true_and,and_true,Cc,Bw,↓reduceIte,reduceCtorEq,Int.toNat_natCast,Int.natCast_nonneg,Nat.zero_add,PV.agg.injEq,PV.int.injEq,L.tup.injEq,List.cons.injEq,Bool.false_eq_true,Bool.true_and,Bool.and_true,Bool.or_false,Bool.or_true,and_self,Hi,Kg,J0,Jm,Iq,L8,Jy,wi1 (i:=i) (by omega),hsub,hw1])
    (repeat' (first | (refine iteI (fun h=>?_) (fun h=>?_))|(refine B1 (by first | omega | (simp (disch:=omega) only [Aa,Ak,Ai] at *;omega)) ?_;intro b hb)|(refine And.intro (by first | omega | (simp (disch:=omega) only [Aa,Ak,Ai] at *;omega)) ?_)|((first | (refine Ba hm (by rfl) (by kernel_rfl) ?_)|(refine Det.use (Q7 (s.drop (i+1)) hdl) ?_)|(refine Det.useQ (Q7 (s.drop (i+1)) hdl) ?_)|(refine Det.use (K1 (uq (s.drop (i+1))).1 (by omega)) ?_)|(refine Det.useQ (K1 (uq (s.drop (i+1))).1 (by omega)) ?_)|(refine Det.use (P2 (uq (s.drop (i+1))).1 (by omega)) ?_)|(refine Det.useQ (P2 (uq (s.drop (i+1))).1 (by omega)) ?_));simp only [Cb,Ah,Bm,Br,Cn,Ab,B3,Bd,A1,Da,Mv,Kf,M3,Jep,Bc,D9,C1,Ct,Bf,A0,Ch,Cw,Ca,A9,Aj,B8,N7,D0,Fk,I7,Ek,Ka,Dw,Cg,Jn,M7,Jby,Pd,Pn,Ot,Bo,Bl,Ja,Bq,C2,Dq,Db,D1,Dn,Au,Ep,Bt,Ar,E8,G0,Kx,Lc,Nh,J7,Ds,Dl,G8,Ib,Hf,Jb,C5,F7,G1,D5,E2,La,Eb,Jc,J9,Hr,Io,K6,E5,Iz,Fj,Ii,Ef,Ag,Ae,A3,Cf,Bv,Bi,Bz,Bx,A4,Bp,B6,Et,Bh,Az,A5,Bs,Cs,Cr,A6,A7,Ij,B9,Av,Ap,Al,B7,B5,Af,Am,Ao,Gq,Cy,Ay,Aw,Cp,Cl,C7,El,Cz,F1,A2,Ad,Ac,List.map_cons,List.map_nil,List.getD_cons_zero,List.getD_cons_succ,List.length_cons,List.length_nil,List.nil_append,List.append_nil,List.flatMap_cons,List.flatMap_nil,List.take_succ_cons,List.take_zero,List.take_nil,List.drop_succ_cons,List.drop_zero,List.drop_nil,List.set_cons_zero,List.set_cons_succ,List.getElem?_cons_zero,List.getElem?_cons_succ,decide_eq_true_eq,beq_iff_eq,bne_iff_ne,decide_eq_false_iff_not,Bool.not_eq_eq_eq_not,ne_eq,not_false_eq_true,Nat.reduceLT,Nat.reduceLeDiff,Nat.reduceEqDiff,Nat.reduceAdd,true_and,and_true,Cc,Bw,↓reduceIte,reduceCtorEq,Int.toNat_natCast,Int.natCast_nonneg,Nat.zero_add,Bool.not_true,PV.agg.injEq,PV.int.injEq,L.tup.injEq,List.cons.injEq,Bool.false_eq_true,Bool.true_and,Bool.and_true,Bool.or_false,Bool.or_true,and_self,Hi,Kg,J0,Jm,Iq,L8,Jy,wi1 (i:=i) (by omega),hw1,hsubq,hwq])|(exact True.intro)|(exfalso;omega)))
    all_goals simp only [Nat.add_zero] at *
    all_goals first
     | (exfalso;omega)
     | (rw [hG (by omega) (by assumption) (by assumption)];exact ⟨rfl,by simp only;omega⟩)
     | (rw [hB1 (fun ⟨a,b,c⟩=>by first | omega | (exact absurd b (by assumption))|(exact absurd c (by assumption))) (by assumption)];exact ⟨rfl,rfl⟩)
     | (rw [hB2 (fun ⟨a,b,c⟩=>by first | omega | (exact absurd b (by assumption))|(exact absurd c (by assumption))) (by assumption) (by omega)];exact ⟨rfl,rfl⟩)
theorem d_step (s:List UInt8) (i:Nat) (first:Bool) (hs:s.length≤1000000) (hi:i≤s.length):Det cx 114 [.p (.str s),.p (.int .i64 i),.p (.bool first)] [] (.tup [.agg (N5 s i first).1.cells,.int .i64 (i+(N5 s i first).2:Nat)]) []:=by
 by_cases hd:i<s.length∧at_ s i=46
 ·exact Jm1 s i first hs hd.1 hd.2
 ·exact Jhx s i first hs hi hd
end Go.LX
