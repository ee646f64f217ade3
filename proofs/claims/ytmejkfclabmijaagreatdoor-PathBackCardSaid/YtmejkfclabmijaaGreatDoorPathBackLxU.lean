/- Paths: reading. -/
import Derived.Test.YtmejkfclabmijaaGreatDoorPathBackLxT
set_option linter.unusedSimpArgs false
set_option linter.unusedVariables false
set_option linter.unusedSectionVars false
set_option linter.unnecessarySimpa false
set_option maxRecDepth 100000
set_option maxHeartbeats 2000000
namespace Go.LX
open Go Go.RowKit Go.Proofs
attribute [local irreducible] Bz SWP Gm
def Jo (s:List UInt8) (i:Nat):Step×Nat :=
 if (Hn (s.drop i)).2≠0 then Hn (s.drop i)
 else if i=0 then (if s.take 1=[46]∧(Ip (s.drop 1)).2≠0 then ((Ip (s.drop 1)).1,(Ip (s.drop 1)).2+1) else (Mt,0))
 else Ip (s.drop i)
def K3 (s:List UInt8):Nat→Nat→List Step→List Step×Nat
 | 0,i,p=>(p,i)
 | f+1,i,p=>if i<s.length∧p.length<20∧(Jo s i).2≠0 then K3 s f (i+(Jo s i).2) (p ++ [(Jo s i).1]) else (p,i)
def V4 (s:List UInt8):List Step×Nat:=K3 s (s.length+1) 0 []
def Ks (s:List UInt8):List Step×Nat×Nat :=
 if s=[46] then ([],0,0)
 else if (V4 s).2<s.length∨(V4 s).1.length=0 then ([],(V4 s).2,1)
 else ((V4 s).1,0,0)
theorem Yp (s:List UInt8):(Hn s).2≤s.length:=by
 unfold Hn
 split
 ·rename_i h0
  have h1:1≤s.length:=by cases s <;> simp at h0 ⊢
  have hw:=Xd (s.drop 1)
  have hu:=(Jqq (s.drop 1)).2.2
  rw [List.length_drop] at hw hu
  split
  ·simp only;omega
  ·split <;> simp only <;> omega
 ·exact Nat.zero_le _
theorem Un (s:List UInt8):(Ip s).2≤s.length:=by
 unfold Ip
 split
 ·rename_i h
  obtain ⟨e,he⟩:∃ e:Nat,eI s=e:=⟨(eI s).toNat,by omega⟩
  have hl:=Jiy he
  split
  ·split
   ·simp only;omega
   ·exact Nat.zero_le _
  ·exact Nat.zero_le _
 ·exact Nat.zero_le _
theorem Jd0 {s:List UInt8} {i:Nat} (h:i≤s.length):i+(Jo s i).2≤s.length:=by
 have h1:=Yp (s.drop i)
 have h2:=Un (s.drop i)
 have h3:=Un (s.drop 1)
 rw [List.length_drop] at h1 h2 h3
 unfold Jo
 split
 ·omega
 ·split
  ·subst i
   split
   ·rename_i h0
    have h1:1≤s.length:=by have:=h0.1;cases s <;> simp at this ⊢
    simp only;omega
   ·simp only;omega
  ·omega
theorem Ri {s:List UInt8} {f i:Nat} {p:List Step} (h:¬ (i<s.length∧p.length<20∧(Jo s i).2≠0)):K3 s f i p=(p,i):=by
 cases f with
 | zero=>rfl
 | succ f=>rw [K3,if_neg h]
theorem Zj (p q:List Step):Gp (p ++ q)=Gp p ++ Gp q:=by simp [Gp]
theorem Jht (s:List UInt8) (hs:s.length≤1000000):Det cx 16 [.p (.str s)] [] (.tup [.sl (Gp (Ks s).1),.int .i64 (Ks s).2.1,.int .i64 (Ks s).2.2]) []:=by
 refine Det.weak ?_
 by_cases hd:s=[46]
 ·subst hd
  (refine Bz.of_code (X:=cx) false [] (by simp) Tryz.func16 (by kernel_rfl) rfl (by simp only [List.length_cons,List.length_nil,Tryz.ntmps16];decide) (by simp) ?_;refine Ax hm _ _ _ ?_;simp only [Tryz.ntmps16,Tryz.results16,Dm,Ah,Bn,Bs,Cn,Ab,Cf,Bd,A0,Bb,Be,Az,Cb,Hc,E1,Ba,Ai,B8,Br,F4,B0,Aq,Pz,Ag,Ae,A3,Bt,Cy,Cz,A7,A8,B9,Aw,Ao,Al,B5,B6,Af,Am,Ap,De,A1,A2,Ad,Ac,argW,List.map_cons,List.map_nil,Nat.reduceLT,Nat.reduceEqDiff,and_true,Ca,↓reduceIte,reduceCtorEq,Bool.and_true,Bool.or_true,beq_self_eq_true])
  (repeat' (first | (refine iteI (fun h=>?_) (fun h=>?_))|(refine B2 (by first | omega | (simp (disch:=omega) only [Aa,Ak,Aj] at *;omega)) ?_;intro b hb)|(refine And.intro (by first | omega | (simp (disch:=omega) only [Aa,Ak,Aj] at *;omega)) ?_)|((first | (refine A9 hm (by rfl) (by kernel_rfl) ?_));simp only [Dm])|(exact True.intro)|(exfalso;omega)))
  exact OLe.of_tup ⟨.nil,.refl _,.refl _,trivial⟩
 ·have hd':(s=[46])=False:=eq_false hd
  skip
  (refine Bz.of_code (X:=cx) false [] (by simp) Tryz.func16 (by kernel_rfl) rfl (by simp only [List.length_cons,List.length_nil,Tryz.ntmps16];decide) (by simp) ?_;refine Ax hm _ _ _ ?_;simp only [Tryz.ntmps16,Tryz.results16,Dm,Ch,Ah,Bn,Bs,Ci,H9,Jn0,Ab,Bd,A0,Bb,Be,Az,Cb,Hc,E1,Ba,Ai,B8,Br,F4,B0,Aq,Pz,Ad,Ac,argW,List.map_cons,List.map_nil,beq_iff_eq,Nat.reduceLT,Ca,↓reduceIte,reduceCtorEq,Bool.or_true,hd'])
  (repeat' (first | (refine iteI (fun h=>?_) (fun h=>?_))|(refine B2 (by first | omega | (simp (disch:=omega) only [Aa,Ak,Aj] at *;omega)) ?_;intro b hb)|(refine And.intro (by first | omega | (simp (disch:=omega) only [Aa,Ak,Aj] at *;omega)) ?_)|((first | (refine A9 hm (by rfl) (by kernel_rfl) ?_));simp only [Dm])|(exact True.intro)|(exfalso;omega)))
  refine SWP.of_le (St.le_nilOwn _ (i:=5) (d:=59) 47 3 (.inl (by decide)) rfl) ?_
  simp only [St.nilOwn,St.nilReg,Cs,B1,E6,Ad,Bl,Bf,A6]
  refine SWP.loop (fun x:Nat×Nat×List Step=>⟨Fo 74 [(0,.p (.str s)),(5,.own 59 0 x.2.2.length),(6,.p (.int .i64 x.1))],[(59,.row 47 3 (Gp x.2.2))]⟩) (fun x=>x.1≤s.length∧s.length+1≤x.1+x.2.1∧x.2.2.length≤20∧K3 s x.2.1 x.1 x.2.2=V4 s) (fun x=>s.length - x.1) (0,s.length+1,[]) (by rw [show Gp []=[] from rfl];exact (St.le_slots (by simp only [Ck,Cm,Ac,Bj,Au,Nat.reduceEqDiff,reduceIte,Nat.reduceLT,Nat.reduceLeDiff];simp (disch:=omega) [Au,Bc,Cq,Aa] <;> (repeat' apply And.intro) <;> omega) (by simp (disch:=omega) [Dj,Eo,Dg,Bh,Au,Bc,Cq,Aa]) (by simp [Dk]))) ⟨Nat.zero_le _,by simp,by simp,rfl⟩ ?_
  rintro ⟨i,f,p⟩ ⟨h1,h2,h3,h4⟩
  simp only at h1 h2 h3 h4
  have hf:=Yp (s.drop i)
  have hp:=Un (s.drop i)
  rw [List.length_drop] at hf hp
  have wl (n:Nat) (hn:n≤3000000):IntKind.i64.wrap ((i:Int)+(n:Int))=((i+n:Nat):Int):=Aa (by omega) (by omega)
  have bad:K3 s f i p=(p,i)→(i<s.length∨p.length=0)→Ks s=([],i,1):=fun h h'=>by
   rw [h] at h4
   unfold Ks;rw [if_neg hd,← h4,if_pos h']
  have good:K3 s f i p=(p,i)→¬ (i<s.length∨p.length=0)→Ks s=(p,0,0):=fun h h'=>by
   rw [h] at h4
   unfold Ks;rw [if_neg hd,← h4,if_neg h']
  have htk:(Gp p).take p.length=Gp p:=List.take_of_length_le (by simp)
  by_cases hc:¬ (i<s.length∧p.length<20)
  ·have hst:K3 s f i p=(p,i):=Ri fun h=>hc ⟨h.1,h.2.1⟩
   skip
   (refine Ax hm _ _ _ ?_;simp only [Ch,Ah,Bn,Bs,Ci,Fd,Cn,Ab,Co,Cf,B4,Bd,A0,Dq,Bb,Ep,Be,Az,Ce,C0,Cb,E1,Ba,Ai,B8,Em,Ft,Eg,Cc,Br,C6,D6,Du,D3,D4,Av,B0,Aq,H0,D1,D9,Fb,Gg,E9,Ef,Fn,Ij,Gy,Ag,Ae,A3,F8,Gq,Fk,Gs,Cd,Bv,Bm,Bx,Bw,A5,B3,Bi,Ay,A4,Bt,Cy,Cz,A7,A8,B9,Aw,Ao,Al,B5,B6,Af,Am,Ap,De,A1,Ar,D8,Dv,Jg,J8,Hy,Cj,A2,Ad,Ac,Dc,Bf,A6,Ea,List.map_cons,List.map_nil,List.getD_cons_zero,List.getD_cons_succ,List.append_nil,List.flatMap_cons,List.flatMap_nil,List.drop_zero,decide_eq_true_eq,beq_iff_eq,Nat.reduceLT,Nat.reduceEqDiff,true_and,and_true,Ca,Bu,↓reduceIte,reduceCtorEq,Int.toNat_natCast,Int.natCast_nonneg,Nat.zero_add,Bool.false_eq_true,Bool.true_and,Bool.and_true,Bool.or_false,Bool.or_true,Ja,I9,Dr,htk,Nat.le_refl])
   (repeat' (first | (refine iteI (fun h=>?_) (fun h=>?_))|(refine B2 (by first | omega | (simp (disch:=omega) only [Aa,Ak,Aj] at *;omega)) ?_;intro b hb)|(refine And.intro (by first | omega | (simp (disch:=omega) only [Aa,Ak,Aj] at *;omega)) ?_)|((first | (refine A9 hm (by rfl) (by kernel_rfl) ?_));simp only [Dm])|(exact True.intro)|(exfalso;omega)))
   ·rw [bad hst (by omega)];exact OLe.of_tup ⟨.nil,.refl _,.refl _,trivial⟩
   ·rw [bad hst (by omega)];exact OLe.of_tup ⟨.nil,.refl _,.refl _,trivial⟩
   ·rw [good hst (by omega)];exact .inl rfl
  ·have hc:=Decidable.not_not.1 hc
   have hdl:(s.drop i).length≤1000000:=by rw [List.length_drop];omega
   obtain ⟨g,rfl⟩:∃ g,f=g+1:=⟨f - 1,by omega⟩
   by_cases hfi:(Hn (s.drop i)).2≠0
   ·have hn:Jo s i=Hn (s.drop i):=by unfold Jo;rw [if_pos hfi]
    have hel:Gp p ++ [(Hn (s.drop i)).1.cells]=Gp (p ++ [(Hn (s.drop i)).1]):=by rw [Zj];rfl
    rw [K3,hn,if_pos ⟨hc.1,hc.2,hfi⟩] at h4
    have hw:=wl (Hn (s.drop i)).2 (by omega)
    have hel':Gp p ++ [[.bool (Hn (s.drop i)).1.part,.str (Hn (s.drop i)).1.name,.int .i64 (Hn (s.drop i)).1.n]]=Gp (p ++ [(Hn (s.drop i)).1]):=hel
    skip
    (refine Ax hm _ _ _ ?_;simp only [Ch,Ah,Bn,Bs,Ci,Fd,Cn,Ab,Co,Cf,B4,Bd,A0,Dq,Bb,Ep,Be,Az,Ce,C0,Cb,E1,Ba,Ai,B8,Em,Ft,Eg,Cc,Br,C6,D6,Du,D3,D4,Av,B0,Aq,H0,D1,D9,Fb,Gg,E9,Ef,Fn,Ij,Gy,Ag,Ae,A3,F8,Gq,Fk,Gs,Cd,Bv,Bm,Bx,Bw,A5,B3,Bi,Ay,A4,Bt,Cy,Cz,A7,A8,B9,Aw,Ao,Al,B5,B6,Af,Am,Ap,De,A1,Ar,D8,Dv,Jg,J8,Hy,Cj,A2,Ad,Ac,Dc,Bf,A6,Ea,List.map_cons,List.map_nil,List.getD_cons_zero,List.getD_cons_succ,List.append_nil,List.flatMap_cons,List.flatMap_nil,List.drop_zero,decide_eq_true_eq,beq_iff_eq,Nat.reduceLT,Nat.reduceEqDiff,true_and,and_true,Ca,Bu,↓reduceIte,reduceCtorEq,Int.toNat_natCast,Int.natCast_nonneg,Nat.zero_add,Bool.false_eq_true,Bool.true_and,Bool.and_true,Bool.or_false,Bool.or_true,Ja,I9,Dr,htk,Nat.le_refl,Dr,htk,Nat.le_refl])
    (repeat' (first | (refine iteI (fun h=>?_) (fun h=>?_))|(refine B2 (by first | omega | (simp (disch:=omega) only [Aa,Ak,Aj] at *;omega)) ?_;intro b hb)|(refine And.intro (by first | omega | (simp (disch:=omega) only [Aa,Ak,Aj] at *;omega)) ?_)|((first | (refine A9 hm (by rfl) (by kernel_rfl) ?_)|(refine Det.use (Nx (s.drop i) hdl) ?_)|(refine Det.useQ (Nx (s.drop i) hdl) ?_));simp only [Ch,Ah,Bn,Bs,Fd,Cn,Ab,Co,Cf,Bo,B4,Bd,A0,Dq,Bb,Ep,Dd,Cs,Be,Az,Ce,C0,Cb,Hc,E1,Ba,Ai,B8,Em,D5,Gn,Ft,Es,Eg,H2,Di,Fy,Cc,Bp,Bg,Br,C6,D6,Du,D3,D4,Av,B0,Aq,Hb,H0,D1,Js,D9,Fb,Gg,He,K7,C5,Iq,Jj,E9,Ef,Fn,Ij,Gy,En,G7,H5,Cr,G1,Gj,Jw,Gl,Jc,Fj,Ag,Ae,A3,F8,Gq,Fk,Gs,Cd,Bv,Bm,Bx,Bw,A5,Bq,B3,Fc,Bi,Ay,A4,Ib,Jm,Ii,Dh,Jl,Gz,G8,Ha,G6,H7,H1,G0,F1,G3,E7,Gb,Km,F6,Jb,Bt,Cy,Cz,A7,A8,B9,Aw,Ao,Al,B5,B6,Af,Am,Ap,De,A1,Ar,B1,Cw,Cu,D8,Dv,Hw,Fv,Kt,E6,G2,Ky,H3,F5,Jg,J8,Kb,Hy,Cj,Ds,Fl,Db,Hf,A2,Ad,Ac,Bl,Dc,Bf,A6,Ea,List.map_cons,List.map_nil,List.getD_cons_zero,List.getD_cons_succ,List.length_cons,List.length_nil,List.nil_append,List.append_nil,List.flatMap_cons,List.flatMap_nil,List.take_succ_cons,List.take_zero,List.take_nil,List.drop_succ_cons,List.drop_zero,List.drop_nil,List.getElem?_cons_zero,List.getElem?_cons_succ,decide_eq_true_eq,beq_iff_eq,ne_eq,not_false_eq_true,Nat.reduceLT,Nat.reduceLeDiff,Nat.reduceEqDiff,Nat.reduceAdd,Nat.reduceMul,Int.reduceLT,true_and,and_true,Ca,Bu,↓reduceIte,reduceCtorEq,Nat.zero_add,Bool.false_eq_true,Bool.true_and,Bool.and_true,Bool.or_false,Bool.or_true,beq_self_eq_true,Ja,I9,Kl,Lm,Kk,Lk,Jc3,Dr,htk,Nat.le_refl,Dr,htk,Nat.le_refl,Step.cells,hel',hw])|(exact True.intro)|(exfalso;omega)))
    refine ⟨by simp,by omega,by omega,(i+(Hn (s.drop i)).2,g,p ++ [(Hn (s.drop i)).1]),⟨by simp only;omega,by simp only;omega,by simp only [List.length_append,List.length_singleton];omega,h4⟩,by simp only;omega,?_⟩
    simp only [List.length_append,List.length_singleton]
    exact (St.le_slots (by simp only [Ck,Cm,Ac,Bj,Au,Nat.reduceEqDiff,reduceIte,Nat.reduceLT,Nat.reduceLeDiff];simp (disch:=omega) [Au,Bc,Cq,Aa] <;> (repeat' apply And.intro) <;> omega) (by simp (disch:=omega) [Dj,Eo,Dg,Bh,Au,Bc,Cq,Aa]) (by simp [Dk]))
   ·have hf0:(Hn (s.drop i)).2=0:=by omega
    have w01:IntKind.i64.wrap 1=1:=by decide
    rw [K3] at h4
    by_cases hi:i=0
    ·have hi0:(i:Int)=0:=by omega
     have e0:s.drop i=s:=by rw [hi];rfl
     rw [e0] at hf0
     by_cases hdot:s.take 1=[46]
     ·have hd1:(s.drop 1).length≤1000000:=by rw [List.length_drop];omega
      have hp1:=Un (s.drop 1)
      have hs1:1≤s.length:=by cases s <;> simp at hdot ⊢
      rw [List.length_drop] at hp1
      by_cases hpz:(Ip (s.drop 1)).2=0
      ·have hn:(Jo s i).2=0:=by unfold Jo;rw [if_neg hfi,if_pos hi,if_neg (fun h=>h.2 hpz)]
       have hst:K3 s (g+1) i p=(p,i):=Ri fun h=>h.2.2 hn
       have hel':=hi0
       have hw:=hpz
       skip
       (refine Ax hm _ _ _ ?_;simp only [Ch,Ah,Bn,Bs,Ci,Fd,Cn,Ab,Co,Cf,B4,Bd,A0,Dq,Bb,Ep,Be,Az,Ce,C0,Cb,E1,Ba,Ai,B8,Em,Ft,Eg,Cc,Br,C6,D6,Du,D3,D4,Av,B0,Aq,H0,D1,D9,Fb,Gg,E9,Ef,Fn,Ij,Gy,Ag,Ae,A3,F8,Gq,Fk,Gs,Cd,Bv,Bm,Bx,Bw,A5,B3,Bi,Ay,A4,Bt,Cy,Cz,A7,A8,B9,Aw,Ao,Al,B5,B6,Af,Am,Ap,De,A1,Ar,D8,Dv,Jg,J8,Hy,Cj,A2,Ad,Ac,Dc,Bf,A6,Ea,List.map_cons,List.map_nil,List.getD_cons_zero,List.getD_cons_succ,List.append_nil,List.flatMap_cons,List.flatMap_nil,List.drop_zero,decide_eq_true_eq,beq_iff_eq,Nat.reduceLT,Nat.reduceEqDiff,Int.reduceToNat,Int.reduceLE,true_and,and_true,Ca,Bu,↓reduceIte,reduceCtorEq,Int.natCast_nonneg,Nat.zero_add,Bool.false_eq_true,Bool.true_and,Bool.and_true,Bool.or_false,Bool.or_true,Ja,I9,Dr,htk,Nat.le_refl,Dr,htk,Nat.le_refl,hel',Dr,htk,Nat.le_refl,hel'])
       (repeat' (first | (refine iteI (fun h=>?_) (fun h=>?_))|(refine B2 (by first | omega | (simp (disch:=omega) only [Aa,Ak,Aj] at *;omega)) ?_;intro b hb)|(refine And.intro (by first | omega | (simp (disch:=omega) only [Aa,Ak,Aj] at *;omega)) ?_)|((first | (refine A9 hm (by rfl) (by kernel_rfl) ?_)|(refine Det.use (Nx s hs) ?_)|(refine Det.useQ (Nx s hs) ?_)|(refine Det.use (Gf s [46] hs (by simp)) ?_)|(refine Det.useQ (Gf s [46] hs (by simp)) ?_)|(refine Det.use (U7 (s.drop 1) hd1) ?_)|(refine Det.useQ (U7 (s.drop 1) hd1) ?_));simp only [Ch,Ah,Bn,Bs,Fd,Cn,Ab,Co,Cf,Bo,B4,Bd,A0,Dq,Bb,Ep,Dd,Cs,Be,Az,Ce,C0,Cb,Hc,E1,Ba,Ai,B8,Em,D5,Gn,Ft,Es,Eg,H2,Di,Fy,Cc,Bp,Bg,Br,C6,D6,Du,D3,D4,Av,B0,Aq,Hb,H0,D1,Js,D9,Fb,Gg,He,K7,C5,Iq,Jj,E9,Ef,Fn,Ij,Gy,En,G7,H5,Cr,G1,Gj,Jw,Gl,Jc,Fj,Ag,Ae,A3,F8,Gq,Fk,Gs,Cd,Bv,Bm,Bx,Bw,A5,Bq,B3,Fc,Bi,Ay,A4,Ib,Jm,Ii,Dh,Jl,Gz,G8,Ha,G6,H7,H1,G0,F1,G3,E7,Gb,Km,F6,Jb,Bt,Cy,Cz,A7,A8,B9,Aw,Ao,Al,B5,B6,Af,Am,Ap,De,A1,Ar,B1,Cw,Cu,D8,Dv,Hw,Fv,Kt,E6,G2,Ky,H3,F5,Jg,J8,Kb,Hy,Cj,Ds,Fl,Db,Hf,A2,Ad,Ac,Bl,Dc,Bf,A6,Ea,List.map_cons,List.map_nil,List.getD_cons_zero,List.getD_cons_succ,List.length_cons,List.length_nil,List.nil_append,List.append_nil,List.flatMap_cons,List.flatMap_nil,List.take_succ_cons,List.take_zero,List.take_nil,List.drop_succ_cons,List.drop_zero,List.drop_nil,List.getElem?_cons_zero,List.getElem?_cons_succ,decide_eq_true_eq,beq_iff_eq,ne_eq,not_false_eq_true,Nat.reduceLT,Nat.reduceLeDiff,Nat.reduceEqDiff,Nat.reduceAdd,Nat.reduceMul,Int.reduceToNat,Int.reduceLT,Int.reduceLE,Int.reduceAdd,true_and,and_true,Ca,Bu,↓reduceIte,reduceCtorEq,Nat.zero_add,Bool.false_eq_true,Bool.true_and,Bool.and_true,Bool.or_false,Bool.or_true,beq_self_eq_true,Ja,I9,Kl,Lm,Kk,Lk,Jc3,Dr,htk,Nat.le_refl,Dr,htk,Nat.le_refl,Step.cells,hw,Dr,htk,Nat.le_refl,Step.cells,hw,hf0,hdot,w01])|(exact True.intro)|(exfalso;omega)))
       rw [bad hst (by omega),hi];exact OLe.of_tup ⟨.nil,.refl _,.refl _,trivial⟩
      ·have hn:Jo s i=((Ip (s.drop 1)).1,(Ip (s.drop 1)).2+1):=by unfold Jo;rw [if_neg hfi,if_pos hi,if_pos ⟨hdot,hpz⟩]
       rw [hn,if_pos ⟨hc.1,hc.2,Nat.succ_ne_zero _⟩] at h4
       have hst:IntKind.i64.wrap (((Ip (s.drop 1)).2:Int)+1)=(((Ip (s.drop 1)).2+1:Nat):Int):=wi1 (by omega)
       have hel':Gp p ++ [[.bool (Ip (s.drop 1)).1.part,.str (Ip (s.drop 1)).1.name,.int .i64 (Ip (s.drop 1)).1.n]]=Gp (p ++ [(Ip (s.drop 1)).1]):=by rw [Zj];rfl
       have hw:=hi0
       (refine Ax hm _ _ _ ?_;simp only [Ch,Ah,Bn,Bs,Ci,Fd,Cn,Ab,Co,Cf,B4,Bd,A0,Dq,Bb,Ep,Be,Az,Ce,C0,Cb,E1,Ba,Ai,B8,Em,Ft,Eg,Cc,Br,C6,D6,Du,D3,D4,Av,B0,Aq,H0,D1,D9,Fb,Gg,E9,Ef,Fn,Ij,Gy,Ag,Ae,A3,F8,Gq,Fk,Gs,Cd,Bv,Bm,Bx,Bw,A5,B3,Bi,Ay,A4,Bt,Cy,Cz,A7,A8,B9,Aw,Ao,Al,B5,B6,Af,Am,Ap,De,A1,Ar,D8,Dv,Jg,J8,Hy,Cj,A2,Ad,Ac,Dc,Bf,A6,Ea,List.map_cons,List.map_nil,List.getD_cons_zero,List.getD_cons_succ,List.append_nil,List.flatMap_cons,List.flatMap_nil,List.drop_zero,decide_eq_true_eq,beq_iff_eq,Nat.reduceLT,Nat.reduceEqDiff,Int.reduceToNat,Int.reduceLE,true_and,and_true,Ca,Bu,↓reduceIte,reduceCtorEq,Int.natCast_nonneg,Nat.zero_add,Bool.false_eq_true,Bool.true_and,Bool.and_true,Bool.or_false,Bool.or_true,Ja,I9,Dr,htk,Nat.le_refl,Dr,htk,Nat.le_refl,hw,Dr,htk,Nat.le_refl,hw])
       (repeat' (first | (refine iteI (fun h=>?_) (fun h=>?_))|(refine B2 (by first | omega | (simp (disch:=omega) only [Aa,Ak,Aj] at *;omega)) ?_;intro b hb)|(refine And.intro (by first | omega | (simp (disch:=omega) only [Aa,Ak,Aj] at *;omega)) ?_)|((first | (refine A9 hm (by rfl) (by kernel_rfl) ?_)|(refine Det.use (Nx s hs) ?_)|(refine Det.useQ (Nx s hs) ?_)|(refine Det.use (Gf s [46] hs (by simp)) ?_)|(refine Det.useQ (Gf s [46] hs (by simp)) ?_)|(refine Det.use (U7 (s.drop 1) hd1) ?_)|(refine Det.useQ (U7 (s.drop 1) hd1) ?_));simp only [Ch,Ah,Bn,Bs,Fd,Cn,Ab,Co,Cf,Bo,B4,Bd,A0,Dq,Bb,Ep,Dd,Cs,Be,Az,Ce,C0,Cb,Hc,E1,Ba,Ai,B8,Em,D5,Gn,Ft,Es,Eg,H2,Di,Fy,Cc,Bp,Bg,Br,C6,D6,Du,D3,D4,Av,B0,Aq,Hb,H0,D1,Js,D9,Fb,Gg,He,K7,C5,Iq,Jj,E9,Ef,Fn,Ij,Gy,En,G7,H5,Cr,G1,Gj,Jw,Gl,Jc,Fj,Ag,Ae,A3,F8,Gq,Fk,Gs,Cd,Bv,Bm,Bx,Bw,A5,Bq,B3,Fc,Bi,Ay,A4,Ib,Jm,Ii,Dh,Jl,Gz,G8,Ha,G6,H7,H1,G0,F1,G3,E7,Gb,Km,F6,Jb,Bt,Cy,Cz,A7,A8,B9,Aw,Ao,Al,B5,B6,Af,Am,Ap,De,A1,Ar,B1,Cw,Cu,D8,Dv,Hw,Fv,Kt,E6,G2,Ky,H3,F5,Jg,J8,Kb,Hy,Cj,Ds,Fl,Db,Hf,A2,Ad,Ac,Bl,Dc,Bf,A6,Ea,List.map_cons,List.map_nil,List.getD_cons_zero,List.getD_cons_succ,List.length_cons,List.length_nil,List.nil_append,List.append_nil,List.flatMap_cons,List.flatMap_nil,List.take_succ_cons,List.take_zero,List.take_nil,List.drop_succ_cons,List.drop_zero,List.drop_nil,List.getElem?_cons_zero,List.getElem?_cons_succ,decide_eq_true_eq,beq_iff_eq,ne_eq,not_false_eq_true,Nat.reduceLT,Nat.reduceLeDiff,Nat.reduceEqDiff,Nat.reduceAdd,Nat.reduceMul,Int.reduceToNat,Int.reduceLT,Int.reduceLE,Int.reduceAdd,true_and,and_true,Ca,Bu,↓reduceIte,reduceCtorEq,Nat.zero_add,Bool.false_eq_true,Bool.true_and,Bool.and_true,Bool.or_false,Bool.or_true,beq_self_eq_true,Ja,I9,Kl,Lm,Kk,Lk,Jc3,Dr,htk,Nat.le_refl,Dr,htk,Nat.le_refl,Step.cells,hel',Dr,htk,Nat.le_refl,Step.cells,hel',hf0,hdot,w01,hst])|(exact True.intro)|(exfalso;omega)))
       refine ⟨by simp,by omega,by omega,(i+((Ip (s.drop 1)).2+1),g,p ++ [(Ip (s.drop 1)).1]),⟨by simp only;omega,by simp only;omega,by simp only [List.length_append,List.length_singleton];omega,h4⟩,by simp only;omega,?_⟩
       simp only [List.length_append,List.length_singleton]
       rw [hi]
       generalize Ip (s.drop 1)=P at *
       exact (St.le_slots (by simp only [Ck,Cm,Ac,Bj,Au,Nat.reduceEqDiff,reduceIte,Nat.reduceLT,Nat.reduceLeDiff];simp (disch:=omega) [Au,Bc,Cq,Aa] <;> (repeat' apply And.intro) <;> omega) (by simp (disch:=omega) [Dj,Eo,Dg,Bh,Au,Bc,Cq,Aa]) (by simp [Dk]))
     ·have hn:(Jo s i).2=0:=by unfold Jo;rw [if_neg hfi,if_pos hi,if_neg (fun h=>hdot h.1)]
      have hst:K3 s (g+1) i p=(p,i):=Ri fun h=>h.2.2 hn
      have hel':=hi0
      have hw:=hdot
      (refine Ax hm _ _ _ ?_;simp only [Ch,Ah,Bn,Bs,Ci,Fd,Cn,Ab,Co,Cf,B4,Bd,A0,Dq,Bb,Ep,Be,Az,Ce,C0,Cb,E1,Ba,Ai,B8,Em,Ft,Eg,Cc,Br,C6,D6,Du,D3,D4,Av,B0,Aq,H0,D1,D9,Fb,Gg,E9,Ef,Fn,Ij,Gy,Ag,Ae,A3,F8,Gq,Fk,Gs,Cd,Bv,Bm,Bx,Bw,A5,B3,Bi,Ay,A4,Bt,Cy,Cz,A7,A8,B9,Aw,Ao,Al,B5,B6,Af,Am,Ap,De,A1,Ar,D8,Dv,Jg,J8,Hy,Cj,A2,Ad,Ac,Dc,Bf,A6,Ea,List.map_cons,List.map_nil,List.getD_cons_zero,List.getD_cons_succ,List.append_nil,List.flatMap_cons,List.flatMap_nil,List.drop_zero,decide_eq_true_eq,beq_iff_eq,Nat.reduceLT,Nat.reduceEqDiff,Int.reduceToNat,Int.reduceLE,true_and,and_true,Ca,Bu,↓reduceIte,reduceCtorEq,Int.natCast_nonneg,Nat.zero_add,Bool.false_eq_true,Bool.true_and,Bool.and_true,Bool.or_false,Bool.or_true,Ja,I9,Dr,htk,Nat.le_refl,Dr,htk,Nat.le_refl,hel',Dr,htk,Nat.le_refl,hel'])
      (repeat' (first | (refine iteI (fun h=>?_) (fun h=>?_))|(refine B2 (by first | omega | (simp (disch:=omega) only [Aa,Ak,Aj] at *;omega)) ?_;intro b hb)|(refine And.intro (by first | omega | (simp (disch:=omega) only [Aa,Ak,Aj] at *;omega)) ?_)|((first | (refine A9 hm (by rfl) (by kernel_rfl) ?_)|(refine Det.use (Nx s hs) ?_)|(refine Det.useQ (Nx s hs) ?_)|(refine Det.use (Gf s [46] hs (by simp)) ?_)|(refine Det.useQ (Gf s [46] hs (by simp)) ?_));simp only [Ch,Ah,Bn,Bs,Fd,Cn,Ab,Co,Cf,Bo,B4,Bd,A0,Dq,Bb,Ep,Dd,Cs,Be,Az,Ce,C0,Cb,Hc,E1,Ba,Ai,B8,Em,D5,Gn,Es,Eg,H2,Di,Fy,Cc,Bp,Bg,Br,C6,D6,Du,D3,D4,Av,B0,Aq,Hb,H0,D1,Js,D9,Fb,Gg,He,K7,C5,Iq,Jj,En,G7,H5,Cr,G1,Gj,Jw,Gl,Jc,Fj,Ag,Ae,A3,F8,Gq,Fk,Gs,Cd,Bv,Bm,Bx,Bw,A5,Bq,B3,Fc,Bi,Ay,A4,Ib,Jm,Ii,Dh,Jl,Gz,G8,Ha,G6,H7,H1,G0,F1,G3,E7,Gb,Km,F6,Jb,Bt,Cy,Cz,A7,A8,B9,Aw,Ao,Al,B5,B6,Af,Am,Ap,De,A1,Ar,B1,Cw,Cu,D8,Dv,Hw,Fv,Kt,E6,G2,Ky,H3,F5,Jg,J8,Kb,Hy,Cj,Ds,Fl,Db,Hf,A2,Ad,Ac,Bl,Dc,Bf,A6,Ea,List.map_cons,List.map_nil,List.getD_cons_zero,List.getD_cons_succ,List.length_cons,List.length_nil,List.nil_append,List.append_nil,List.flatMap_cons,List.flatMap_nil,List.take_succ_cons,List.take_zero,List.take_nil,List.drop_succ_cons,List.drop_zero,List.drop_nil,List.getElem?_cons_zero,List.getElem?_cons_succ,decide_eq_true_eq,beq_iff_eq,ne_eq,not_false_eq_true,Nat.reduceLT,Nat.reduceLeDiff,Nat.reduceEqDiff,Nat.reduceAdd,Nat.reduceMul,Int.reduceLT,true_and,and_true,Ca,Bu,↓reduceIte,reduceCtorEq,Nat.zero_add,Bool.false_eq_true,Bool.true_and,Bool.and_true,Bool.or_false,Bool.or_true,beq_self_eq_true,Ja,I9,Kl,Lm,Kk,Lk,Jc3,Dr,htk,Nat.le_refl,Dr,htk,Nat.le_refl,Step.cells,hw,Dr,htk,Nat.le_refl,Step.cells,hw,hf0])|(exact True.intro)|(exfalso;omega)))
      rw [bad hst (by omega),hi];exact OLe.of_tup ⟨.nil,.refl _,.refl _,trivial⟩
    ·by_cases hpz:(Ip (s.drop i)).2=0
     ·have hn:(Jo s i).2=0:=by unfold Jo;rw [if_neg hfi,if_neg hi,hpz]
      have hst:K3 s (g+1) i p=(p,i):=Ri fun h=>h.2.2 hn
      have hel':=hpz
      have hw:IntKind.i64.wrap ((i:Int)+0)=(i:Int):=by rw [Int.add_zero];exact Aa (by omega) (by omega)
      have hdot:=hi
      (refine Ax hm _ _ _ ?_;simp only [Ch,Ah,Bn,Bs,Ci,Fd,Cn,Ab,Co,Cf,B4,Bd,A0,Dq,Bb,Ep,Be,Az,Ce,C0,Cb,E1,Ba,Ai,B8,Em,Ft,Eg,Cc,Br,C6,D6,Du,D3,D4,Av,B0,Aq,H0,D1,D9,Fb,Gg,E9,Ef,Fn,Ij,Gy,Ag,Ae,A3,F8,Gq,Fk,Gs,Cd,Bv,Bm,Bx,Bw,A5,B3,Bi,Ay,A4,Bt,Cy,Cz,A7,A8,B9,Aw,Ao,Al,B5,B6,Af,Am,Ap,De,A1,Ar,D8,Dv,Jg,J8,Hy,Cj,A2,Ad,Ac,Dc,Bf,A6,Ea,List.map_cons,List.map_nil,List.getD_cons_zero,List.getD_cons_succ,List.append_nil,List.flatMap_cons,List.flatMap_nil,List.drop_zero,decide_eq_true_eq,beq_iff_eq,Nat.reduceLT,Nat.reduceEqDiff,true_and,and_true,Ca,Bu,↓reduceIte,reduceCtorEq,Int.toNat_natCast,Int.natCast_nonneg,Nat.zero_add,Bool.false_eq_true,Bool.true_and,Bool.and_true,Bool.or_false,Bool.or_true,Ja,I9,Dr,htk,Nat.le_refl,Dr,htk,Nat.le_refl,Dr,htk,Nat.le_refl])
      (repeat' (first | (refine iteI (fun h=>?_) (fun h=>?_))|(refine B2 (by first | omega | (simp (disch:=omega) only [Aa,Ak,Aj] at *;omega)) ?_;intro b hb)|(refine And.intro (by first | omega | (simp (disch:=omega) only [Aa,Ak,Aj] at *;omega)) ?_)|((first | (refine A9 hm (by rfl) (by kernel_rfl) ?_)|(refine Det.use (Nx (s.drop i) hdl) ?_)|(refine Det.useQ (Nx (s.drop i) hdl) ?_)|(refine Det.use (U7 (s.drop i) hdl) ?_)|(refine Det.useQ (U7 (s.drop i) hdl) ?_));simp only [Ch,Ah,Bn,Bs,Fd,Cn,Ab,Co,Cf,Bo,B4,Bd,A0,Dq,Bb,Ep,Dd,Cs,Be,Az,Ce,C0,Cb,Hc,E1,Ba,Ai,B8,Em,D5,Gn,Ft,Es,Eg,H2,Di,Fy,Cc,Bp,Bg,Br,C6,D6,Du,D3,D4,Av,B0,Aq,Hb,H0,D1,Js,D9,Fb,Gg,He,K7,C5,Iq,Jj,E9,Ef,Fn,Ij,Gy,En,G7,H5,Cr,G1,Gj,Jw,Gl,Jc,Fj,Ag,Ae,A3,F8,Gq,Fk,Gs,Cd,Bv,Bm,Bx,Bw,A5,Bq,B3,Fc,Bi,Ay,A4,Ib,Jm,Ii,Dh,Jl,Gz,G8,Ha,G6,H7,H1,G0,F1,G3,E7,Gb,Km,F6,Jb,Bt,Cy,Cz,A7,A8,B9,Aw,Ao,Al,B5,B6,Af,Am,Ap,De,A1,Ar,B1,Cw,Cu,D8,Dv,Hw,Fv,Kt,E6,G2,Ky,H3,F5,Jg,J8,Kb,Hy,Cj,Ds,Fl,Db,Hf,A2,Ad,Ac,Bl,Dc,Bf,A6,Ea,List.map_cons,List.map_nil,List.getD_cons_zero,List.getD_cons_succ,List.length_cons,List.length_nil,List.nil_append,List.append_nil,List.flatMap_cons,List.flatMap_nil,List.take_succ_cons,List.take_zero,List.take_nil,List.drop_succ_cons,List.drop_zero,List.drop_nil,List.getElem?_cons_zero,List.getElem?_cons_succ,decide_eq_true_eq,beq_iff_eq,ne_eq,not_false_eq_true,Nat.reduceLT,Nat.reduceLeDiff,Nat.reduceEqDiff,Nat.reduceAdd,Nat.reduceMul,Int.reduceLT,true_and,and_true,Ca,Bu,↓reduceIte,reduceCtorEq,Int.toNat_natCast,Int.natCast_nonneg,Nat.zero_add,Bool.false_eq_true,Bool.true_and,Bool.and_true,Bool.or_false,Bool.or_true,beq_self_eq_true,Ja,I9,Kl,Lm,Kk,Lk,Jc3,Dr,htk,Nat.le_refl,Dr,htk,Nat.le_refl,Step.cells,hel',hw,Dr,htk,Nat.le_refl,Step.cells,hel',hw,hf0])|(exact True.intro)|(exfalso;omega)))
      rw [bad hst (by omega)];exact OLe.of_tup ⟨.nil,.refl _,.refl _,trivial⟩
     ·have hn:Jo s i=Ip (s.drop i):=by unfold Jo;rw [if_neg hfi,if_neg hi]
      have hel':Gp p ++ [[.bool (Ip (s.drop i)).1.part,.str (Ip (s.drop i)).1.name,.int .i64 (Ip (s.drop i)).1.n]]=Gp (p ++ [(Ip (s.drop i)).1]):=by rw [Zj];rfl
      rw [hn,if_pos ⟨hc.1,hc.2,hpz⟩] at h4
      have hw:IntKind.i64.wrap ((i:Int)+0)=(i:Int):=by rw [Int.add_zero];exact Aa (by omega) (by omega)
      have hdot:=hi
      have hst:=wl (Ip (s.drop i)).2 (by omega)
      have w01:IntKind.i64.wrap (((Ip (s.drop i)).2:Int)+0)=((Ip (s.drop i)).2:Int):=by rw [Int.add_zero];exact Aa (by omega) (by omega)
      (refine Ax hm _ _ _ ?_;simp only [Ch,Ah,Bn,Bs,Ci,Fd,Cn,Ab,Co,Cf,B4,Bd,A0,Dq,Bb,Ep,Be,Az,Ce,C0,Cb,E1,Ba,Ai,B8,Em,Ft,Eg,Cc,Br,C6,D6,Du,D3,D4,Av,B0,Aq,H0,D1,D9,Fb,Gg,E9,Ef,Fn,Ij,Gy,Ag,Ae,A3,F8,Gq,Fk,Gs,Cd,Bv,Bm,Bx,Bw,A5,B3,Bi,Ay,A4,Bt,Cy,Cz,A7,A8,B9,Aw,Ao,Al,B5,B6,Af,Am,Ap,De,A1,Ar,D8,Dv,Jg,J8,Hy,Cj,A2,Ad,Ac,Dc,Bf,A6,Ea,List.map_cons,List.map_nil,List.getD_cons_zero,List.getD_cons_succ,List.append_nil,List.flatMap_cons,List.flatMap_nil,List.drop_zero,decide_eq_true_eq,beq_iff_eq,Nat.reduceLT,Nat.reduceEqDiff,true_and,and_true,Ca,Bu,↓reduceIte,reduceCtorEq,Int.toNat_natCast,Int.natCast_nonneg,Nat.zero_add,Bool.false_eq_true,Bool.true_and,Bool.and_true,Bool.or_false,Bool.or_true,Ja,I9,Dr,htk,Nat.le_refl,Dr,htk,Nat.le_refl,Dr,htk,Nat.le_refl])
      (repeat' (first | (refine iteI (fun h=>?_) (fun h=>?_))|(refine B2 (by first | omega | (simp (disch:=omega) only [Aa,Ak,Aj] at *;omega)) ?_;intro b hb)|(refine And.intro (by first | omega | (simp (disch:=omega) only [Aa,Ak,Aj] at *;omega)) ?_)|((first | (refine A9 hm (by rfl) (by kernel_rfl) ?_)|(refine Det.use (Nx (s.drop i) hdl) ?_)|(refine Det.useQ (Nx (s.drop i) hdl) ?_)|(refine Det.use (U7 (s.drop i) hdl) ?_)|(refine Det.useQ (U7 (s.drop i) hdl) ?_));simp only [Ch,Ah,Bn,Bs,Fd,Cn,Ab,Co,Cf,Bo,B4,Bd,A0,Dq,Bb,Ep,Dd,Cs,Be,Az,Ce,C0,Cb,Hc,E1,Ba,Ai,B8,Em,D5,Gn,Ft,Es,Eg,H2,Di,Fy,Cc,Bp,Bg,Br,C6,D6,Du,D3,D4,Av,B0,Aq,Hb,H0,D1,Js,D9,Fb,Gg,He,K7,C5,Iq,Jj,E9,Ef,Fn,Ij,Gy,En,G7,H5,Cr,G1,Gj,Jw,Gl,Jc,Fj,Ag,Ae,A3,F8,Gq,Fk,Gs,Cd,Bv,Bm,Bx,Bw,A5,Bq,B3,Fc,Bi,Ay,A4,Ib,Jm,Ii,Dh,Jl,Gz,G8,Ha,G6,H7,H1,G0,F1,G3,E7,Gb,Km,F6,Jb,Bt,Cy,Cz,A7,A8,B9,Aw,Ao,Al,B5,B6,Af,Am,Ap,De,A1,Ar,B1,Cw,Cu,D8,Dv,Hw,Fv,Kt,E6,G2,Ky,H3,F5,Jg,J8,Kb,Hy,Cj,Ds,Fl,Db,Hf,A2,Ad,Ac,Bl,Dc,Bf,A6,Ea,List.map_cons,List.map_nil,List.getD_cons_zero,List.getD_cons_succ,List.length_cons,List.length_nil,List.nil_append,List.append_nil,List.flatMap_cons,List.flatMap_nil,List.take_succ_cons,List.take_zero,List.take_nil,List.drop_succ_cons,List.drop_zero,List.drop_nil,List.getElem?_cons_zero,List.getElem?_cons_succ,decide_eq_true_eq,beq_iff_eq,ne_eq,not_false_eq_true,Nat.reduceLT,Nat.reduceLeDiff,Nat.reduceEqDiff,Nat.reduceAdd,Nat.reduceMul,Int.reduceLT,true_and,and_true,Ca,Bu,↓reduceIte,reduceCtorEq,Int.toNat_natCast,Int.natCast_nonneg,Nat.zero_add,Bool.false_eq_true,Bool.true_and,Bool.and_true,Bool.or_false,Bool.or_true,beq_self_eq_true,Ja,I9,Kl,Lm,Kk,Lk,Jc3,Dr,htk,Nat.le_refl,Dr,htk,Nat.le_refl,Step.cells,hel',hw,Dr,htk,Nat.le_refl,Step.cells,hel',hw,hf0,w01,hst])|(exact True.intro)|(exfalso;omega)))
      refine ⟨by simp,by omega,by omega,(i+((Ip (s.drop i)).2),g,p ++ [(Ip (s.drop i)).1]),⟨by simp only;omega,by simp only;omega,by simp only [List.length_append,List.length_singleton];omega,h4⟩,by simp only;omega,?_⟩
      simp only [List.length_append,List.length_singleton]
      exact (St.le_slots (by simp only [Ck,Cm,Ac,Bj,Au,Nat.reduceEqDiff,reduceIte,Nat.reduceLT,Nat.reduceLeDiff];simp (disch:=omega) [Au,Bc,Cq,Aa] <;> (repeat' apply And.intro) <;> omega) (by simp (disch:=omega) [Dj,Eo,Dg,Bh,Au,Bc,Cq,Aa]) (by simp [Dk]))
end Go.LX
