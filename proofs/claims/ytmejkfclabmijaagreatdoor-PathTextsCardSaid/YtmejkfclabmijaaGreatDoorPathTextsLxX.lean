/- Paths: texts, the document's answer. -/
import Derived.Test.YtmejkfclabmijaaGreatDoorPathTextsLxW
import Derived.Lib.AtoiTie
set_option linter.unusedSimpArgs false
set_option linter.unusedVariables false
set_option linter.unusedSectionVars false
set_option linter.unnecessarySimpa false
set_option maxRecDepth 100000
set_option maxHeartbeats 2000000
namespace Go.LX
open Go Go.RowKit Go.Proofs
attribute [local irreducible] B2 SWP Hb
theorem Js6 (p:List Step) (hp:p.length≤100) (hok:∀ x∈p,Fw x) (hn:∀ x∈p,x.name.length≤1000):Det cx 21 [.p (.sl (Gm p))] [] (.p (.str (Tk p))) []:=by
 have hT:=Jet hok hn
 cases p with
 | nil =>
  (refine B2.of_code (X:=cx) false [] (by simp) Tryz.func21 (by kernel_rfl) rfl (by simp only [List.length_cons,List.length_nil,Tryz.ntmps21];decide) (by simp) ?_;refine Ax hm _ _ _ ?_;simp only [Tryz.ntmps21,Tryz.results21,Ah,Bm,Br,Ab,Bd,A1,Da,Bc,D9,Bf,A0,Ch,Cw,Ca,F6,A9,Aj,B8,D0,Cv,Dw,Cg,Bq,C2,Dq,D1,Dn,Au,Bt,Ar,G0,Ds,D4,Cj,Ei,Ag,Ae,A3,Cf,Bv,Bi,Bz,Bx,A4,B6,Bh,Az,A5,Cl,Ad,Ac,argW,List.map_cons,List.map_nil,List.getD_cons_zero,List.getD_cons_succ,List.append_nil,List.flatMap_cons,List.flatMap_nil,beq_iff_eq,Nat.reduceLT,Nat.reduceEqDiff,Int.reduceToNat,Int.reduceLE,true_and,Cc,Bw,↓reduceIte,reduceCtorEq,Bool.false_eq_true,Bool.true_and,Bool.or_true,Ir,J8])
  (repeat' (first | (refine iteI (fun h=>?_) (fun h=>?_))|(refine B1 (by first | omega | (simp (disch:=omega) only [Aa,Ak,Ai] at *;omega)) ?_;intro b hb)|(refine And.intro (by first | omega | (simp (disch:=omega) only [Aa,Ak,Ai] at *;omega)) ?_)|((first | (refine Ba hm (by rfl) (by kernel_rfl) ?_)|(refine Det.use (Zx [] hp hok hn) ?_)|(refine Det.useQ (Zx [] hp hok hn) ?_));simp only [Cn,Ab,B3,Bd,A1,Bc,Ct,Bf,A0,F6,Aj,B8,Ep,Bt,Ar,Mo,Ag,Ae,A3,Bp,B6,Bs,Cs,Cr,A6,A7,B9,Av,Ap,Al,B7,B5,Af,Am,Ao,Co,Ay,A2,Ad,Ac,List.length_cons,List.length_nil,List.cons_append,List.nil_append,Nat.reduceLT,and_true,Cc,↓reduceIte,Nat.zero_add,L.p.injEq,PV.str.injEq,Bool.and_true,Bool.or_false])|(exact True.intro)|(exfalso;omega)))
  ·rfl
  ·exact absurd rfl (by assumption)
 | cons x p =>
  have hg:(Gm (x :: p))[0]? = some [.bool x.part,.str x.name,.int .i64 x.n]:=rfl
  rw [List.length_cons] at hT
  unfold Tk
  cases hpt:x.part
  ·skip
   (refine B2.of_code (X:=cx) false [] (by simp) Tryz.func21 (by kernel_rfl) rfl (by simp only [List.length_cons,List.length_nil,Tryz.ntmps21];decide) (by simp) ?_;refine Ax hm _ _ _ ?_;simp only [Tryz.ntmps21,Tryz.results21,Cb,Ah,Bm,Br,Ab,Bd,A1,Da,Bc,D9,Bf,A0,Ch,Cw,Ca,F6,A9,Aj,B8,D0,Ed,C8,Cv,Dw,Cg,Bl,Bq,C2,Dq,D1,Dn,Au,Bt,Ar,G0,Ds,D4,Eo,Cj,Ei,G8,C0,Gb,C5,Dd,Ag,Ae,A3,Cf,Bv,Bi,Bz,Bx,A4,B6,Bh,Az,A5,Cl,Ad,Ac,argW,List.map_cons,List.map_nil,List.getD_cons_zero,List.getD_cons_succ,List.length_cons,List.length_nil,List.append_nil,List.flatMap_cons,List.flatMap_nil,List.drop_zero,List.getElem?_cons_zero,beq_iff_eq,Nat.reduceLT,Nat.reduceLeDiff,Nat.reduceEqDiff,Nat.reduceAdd,Int.reduceToNat,Int.reduceLE,true_and,Cc,Bw,↓reduceIte,reduceCtorEq,Nat.zero_add,Bool.false_eq_true,Bool.true_and,Bool.or_true,Pa,M1,Ir,J8,Jj,Dt,hg,hpt])
   (repeat' (first | (refine iteI (fun h=>?_) (fun h=>?_))|(refine B1 (by first | omega | (simp (disch:=omega) only [Aa,Ak,Ai] at *;omega)) ?_;intro b hb)|(refine And.intro (by first | omega | (simp (disch:=omega) only [Aa,Ak,Ai] at *;omega)) ?_)|((first | (refine Ba hm (by rfl) (by kernel_rfl) ?_)|(refine Det.use (Zx (x :: p) hp hok hn) ?_)|(refine Det.useQ (Zx (x :: p) hp hok hn) ?_));simp only [Cn,Ab,B3,Bd,A1,Bc,Ct,Bf,A0,F6,Aj,B8,Ep,Bt,Ar,Mo,Ag,Ae,A3,Bp,B6,Bs,Cs,Cr,A6,A7,B9,Av,Ap,Al,B7,B5,Af,Am,Ao,Co,Ay,A2,Ad,Ac,List.length_cons,List.length_nil,List.cons_append,List.nil_append,Nat.reduceLT,and_true,Cc,↓reduceIte,Nat.zero_add,L.p.injEq,PV.str.injEq,Bool.and_true,Bool.or_false,and_self])|(exact True.intro)|(exfalso;omega)))
  ·(refine B2.of_code (X:=cx) false [] (by simp) Tryz.func21 (by kernel_rfl) rfl (by simp only [List.length_cons,List.length_nil,Tryz.ntmps21];decide) (by simp) ?_;refine Ax hm _ _ _ ?_;simp only [Tryz.ntmps21,Tryz.results21,Ah,Bm,Br,Ab,Bd,A1,Da,Bc,D9,Bf,A0,Ch,Cw,Ca,F6,A9,Aj,B8,D0,Ed,C8,Cv,Dw,Cg,Bl,Bq,C2,Dq,D1,Dn,Au,Bt,Ar,G0,Ds,D4,Eo,Cj,Ei,G8,C0,Gb,C5,Dd,Ag,Ae,A3,Cf,Bv,Bi,Bz,Bx,A4,B6,Bh,Az,A5,Cl,Ad,Ac,argW,List.map_cons,List.map_nil,List.getD_cons_zero,List.getD_cons_succ,List.length_cons,List.length_nil,List.append_nil,List.flatMap_cons,List.flatMap_nil,List.drop_zero,List.getElem?_cons_zero,beq_iff_eq,Nat.reduceLT,Nat.reduceLeDiff,Nat.reduceEqDiff,Nat.reduceAdd,Int.reduceToNat,Int.reduceLE,true_and,Cc,Bw,↓reduceIte,reduceCtorEq,Nat.zero_add,Bool.false_eq_true,Bool.true_and,Bool.or_true,Pa,M1,Ir,J8,Jj,Dt,hg,hpt])
   (repeat' (first | (refine iteI (fun h=>?_) (fun h=>?_))|(refine B1 (by first | omega | (simp (disch:=omega) only [Aa,Ak,Ai] at *;omega)) ?_;intro b hb)|(refine And.intro (by first | omega | (simp (disch:=omega) only [Aa,Ak,Ai] at *;omega)) ?_)|((first | (refine Ba hm (by rfl) (by kernel_rfl) ?_)|(refine Det.use (Zx (x :: p) hp hok hn) ?_)|(refine Det.useQ (Zx (x :: p) hp hok hn) ?_));simp only [Cn,Ab,B3,Bd,A1,Bc,Ct,Bf,A0,F6,Aj,B8,Ep,Bt,Ar,Mo,Ag,Ae,A3,Bp,B6,Bs,Cs,Cr,A6,A7,B9,Av,Ap,Al,B7,B5,Af,Am,Ao,Co,Ay,A2,Ad,Ac,List.length_cons,List.length_nil,List.cons_append,List.nil_append,Nat.reduceLT,and_true,Cc,↓reduceIte,Nat.zero_add,Bool.and_true,Bool.or_false,and_self])|(exact True.intro)|(exfalso;omega)))
   rw [List.length_cons] at hp
   omega
def dgc (k:Nat):UInt8:=UInt8.ofNat (48+k % 10)
def hiD (m:Nat):List UInt8:=if m<10 then [] else Lib.decDigits (m / 10)
theorem Ym (m:Nat):Lib.decDigits m=hiD m ++ [dgc m]:=by
 rw [Lib.decDigits]
 unfold hiD dgc
 split
 ·rw [Nat.mod_eq_of_lt (by omega)];rfl
 ·rfl
theorem Jgb (n:Nat) (hn:n≤1000000):Det cx 56 [.p (.int .i64 n)] [] (.p (.str (Lib.decDigits n))) []:=by
 have hm10 (k:Nat):(k:Int).tmod 10=((k % 10:Nat):Int):=rfl
 have hd10 (k:Nat):(k:Int).tdiv 10=((k / 10:Nat):Int):=rfl
 have hw (k:Nat):IntKind.i64.wrap (48+((k % 10:Nat):Int))=((48+k % 10:Nat):Int):=by rw [Aa (by omega) (by omega)];omega
 have hu (k:Nat):u8of ((48+k % 10:Nat):Int)=dgc k:=by
  apply UInt8.toNat_inj.1
  have h1:=J4 (c:=((48+k % 10:Nat):Int)) (by omega) (by omega)
  unfold dgc
  rw [UInt8.toNat_ofNat']
  omega
 have hwd (k:Nat) (hk:k≤1000000):IntKind.i64.wrap ((k / 10:Nat):Int)=((k / 10:Nat):Int):=Aa (by omega) (by omega)
 skip
 (refine B2.of_code (X:=cx) false [] (by simp) Tryz.func56 (by kernel_rfl) rfl (by simp only [List.length_cons,List.length_nil,Tryz.ntmps56];decide) (by simp) ?_;refine Ax hm _ _ _ ?_;simp only [Tryz.ntmps56,Tryz.results56,Ah,Bm,Ce,He,Ab,Bd,A1,Bc,Ct,Bf,A0,Ca,F6,A9,Aj,B8,Kb,Df,Bo,Au,Bt,Ar,E8,Jk3,Xk,L4,Hz,S8,Kl,Hn,Ms,Nf,Ly,Q5,Cu,Ma,Ag,Ae,A3,E6,Fu,En,F4,Ht,Ji,Il,Dg,Jg,Gp,Gr,Gs,Gu,Hu,Ho,Aw,B4,Dx,Dk,Ez,I9,G9,C7,El,Cz,F1,Ad,Ac,Bn,C6,Bg,Bb,argW,List.map_cons,List.map_nil,List.length_cons,List.length_nil,List.take_succ_cons,List.take_nil,List.drop_zero,ne_eq,not_false_eq_true,Nat.reduceLT,Nat.reduceLeDiff,Nat.reduceMul,Int.reduceEq,true_and,Cc,↓reduceIte,reduceCtorEq,Nat.zero_add,Bool.true_and,Bool.and_true,Bool.or_false,Bool.or_true,beq_self_eq_true,Uq,Qs,Jac,Hi,Qu,Pq,hm10,hw,hu])
 (repeat' (first | (refine iteI (fun h=>?_) (fun h=>?_))|(refine B1 (by first | omega | (simp (disch:=omega) only [Aa,Ak,Ai] at *;omega)) ?_;intro b hb)|(refine And.intro (by first | omega | (simp (disch:=omega) only [Aa,Ak,Ai] at *;omega)) ?_)|((first | (refine Ba hm (by rfl) (by kernel_rfl) ?_));simp only [Dh])|(exact True.intro)|(exfalso;omega)))
 refine SWP.loop (fun x:Nat×List UInt8=>⟨Fp 23 [(0,.p (.int .i64 x.1)),(3,.p (.str x.2))],[]⟩) (fun x=>x.1≤n∧x.2.length+x.1≤n+1∧hiD x.1 ++ x.2=Lib.decDigits n) (fun x=>x.1) (n,[dgc n]) (St.le_slots (by simp only [Cd,Ck,Ac,Be,Aq,Nat.reduceEqDiff,reduceIte,Nat.reduceLT,Nat.reduceLeDiff];simp (disch:=omega) [Aq,A8,Cm,Aa] <;> (repeat' apply And.intro) <;> omega) (by simp (disch:=omega) [Dc,Ee,C9,Bj,Aq,A8,Cm,Aa]) (by simp [De])) ⟨Nat.le_refl _,by simp only [List.length_singleton];omega,(Ym n).symm⟩ ?_
 rintro ⟨m,t⟩ ⟨h1,h2,h3⟩
 simp only at h1 h2 h3
 have hwm:=hwd m (by omega)
 skip
 (refine Ax hm _ _ _ ?_;simp only [Cb,Ah,Bm,Br,Ce,Eh,Cn,Ab,Ci,Bk,B0,Bd,A1,Bc,Ct,Bf,A0,Ca,A9,Aj,B8,Kb,Df,Bo,Bq,Au,Ep,Bt,Ar,E8,Jon,Jk3,Lc,Mo,Xk,L4,Hz,S8,Kl,Hn,Ms,Nf,Ly,Q5,Cu,Ma,Ag,Ae,A3,E6,Fu,En,F4,Ht,Ji,Il,Dg,Jg,Gp,Gr,Gs,Gu,Hu,Ho,Bs,Cs,Cr,A6,A7,B9,Av,Ap,Al,B7,B5,Af,Am,Ao,Co,Ay,Aw,B4,Dx,Dk,Ez,I9,G9,C7,El,Cz,F1,A2,Ad,Ac,Bn,C6,Bg,Bb,Dy,List.map_cons,List.map_nil,List.length_cons,List.length_nil,List.cons_append,List.nil_append,List.take_succ_cons,List.take_nil,List.drop_zero,decide_eq_true_eq,ne_eq,not_false_eq_true,Nat.reduceLT,Nat.reduceLeDiff,Nat.reduceEqDiff,Nat.reduceMul,Int.reduceEq,true_and,and_true,Cc,↓reduceIte,reduceCtorEq,Nat.zero_add,L.p.injEq,PV.str.injEq,Bool.true_and,Bool.and_true,Bool.or_false,Bool.or_true,beq_self_eq_true,Uq,Qs,Jac,Hi,Qu,Pq,hm10,hd10,hw,hu,hwm])
 (repeat' (first | (refine iteI (fun h=>?_) (fun h=>?_))|(refine B1 (by first | omega | (simp (disch:=omega) only [Aa,Ak,Ai] at *;omega)) ?_;intro b hb)|(refine And.intro (by first | omega | (simp (disch:=omega) only [Aa,Ak,Ai] at *;omega)) ?_)|((first | (refine Ba hm (by rfl) (by kernel_rfl) ?_));simp only [Dh])|(exact True.intro)|(exfalso;omega)))
 ·have hd:=Ym (m / 10)
  have hm:hiD m=Lib.decDigits (m / 10):=by unfold hiD;rw [if_neg (by omega)]
  rw [hm,hd] at h3
  refine ⟨(m / 10,dgc (m / 10) :: t),⟨by simp only;omega,by simp only [List.length_cons];omega,?_⟩,by simp only;omega,(St.le_slots (by simp only [Cd,Ck,Ac,Be,Aq,Nat.reduceEqDiff,reduceIte,Nat.reduceLT,Nat.reduceLeDiff];simp (disch:=omega) [Aq,A8,Cm,Aa] <;> (repeat' apply And.intro) <;> omega) (by simp (disch:=omega) [Dc,Ee,C9,Bj,Aq,A8,Cm,Aa]) (by simp [De]))⟩
  simp only
  rw [← h3,List.append_assoc];rfl
 ·have hm:hiD m=[]:=by unfold hiD;rw [if_pos (by omega)]
  rw [hm] at h3
  exact h3
def Vu (p:List Step):List UInt8:=match p with
 | []=>[]
 | x :: _=>if x.part=true then 46 :: Hd p else Hd p
theorem Jmp {p:List Step} (h:p≠[]) (x:Step):Vu (p ++ [x])=Vu p ++ Hh x:=by
 cases p with
 | nil=>exact absurd rfl h
 | cons y p =>
  show (if y.part=true then 46 :: Hd (y :: p ++ [x]) else Hd (y :: p ++ [x]))=(if y.part=true then 46 :: Hd (y :: p) else Hd (y :: p)) ++ Hh x
  rw [Jg9,Jab]
  split <;> rfl
theorem Jl9 {p:List Step} (h:p≠[]):Vu p=Tk p:=by
 cases p with
 | nil=>exact absurd rfl h
 | cons y p=>rfl
theorem Jsm {p:List Step} (h:∀ x∈p,Fw x) (hn:∀ x∈p,x.name.length≤1000):(Vu p).length≤7000 * p.length+1:=by
 have:=Jet h hn
 cases p with
 | nil=>simp [Vu]
 | cons y p =>
  show (if y.part=true then 46 :: Hd (y :: p) else Hd (y :: p)).length≤_
  split
  ·rw [List.length_cons];omega
  ·omega
theorem Jqp (p:List Step) (hp:p.length≤100) (hok:∀ x∈p,Fw x) (hn:∀ x∈p,x.name.length≤1000):Det cx 22 [.p (.sl (Gm p))] [] (.p (.str (Tk p))) []:=by
 by_cases he:p=[]
 ·subst he
  have h0:(Gm []).length=0:=rfl
  skip
  (refine B2.of_code (X:=cx) false [] (by simp) Tryz.func22 (by kernel_rfl) rfl (by simp only [List.length_cons,List.length_nil,Tryz.ntmps22];decide) (by simp) ?_;refine Ax hm _ _ _ ?_;simp only [Tryz.ntmps22,Tryz.results22,Cb,Ah,Bm,Br,Ce,He,Cn,Ab,B3,Bd,A1,Bc,Bf,A0,Ca,F6,A9,Aj,B8,Dw,Bq,Au,Bt,Ar,G0,Ds,D4,Ag,Ae,A3,Bs,Cs,Cr,A6,A7,B9,Av,Ap,Al,B7,B5,Af,Am,Ao,Co,Ay,A2,Ad,Ac,argW,List.map_cons,List.map_nil,beq_iff_eq,Nat.reduceLT,and_true,Cc,↓reduceIte,reduceCtorEq,L.p.injEq,PV.str.injEq,Bool.and_true,Bool.or_true,Ir,h0])
  (repeat' (first | (refine iteI (fun h=>?_) (fun h=>?_))|(refine B1 (by first | omega | (simp (disch:=omega) only [Aa,Ak,Ai] at *;omega)) ?_;intro b hb)|(refine And.intro (by first | omega | (simp (disch:=omega) only [Aa,Ak,Ai] at *;omega)) ?_)|((first | (refine Ba hm (by rfl) (by kernel_rfl) ?_));simp only [Dh])|(exact True.intro)|(exfalso;omega)))
  rfl
 ·have h0:=Dt p
  have hl:p.length≠0:=fun h=>he (List.eq_nil_of_length_eq_zero h)
  (refine B2.of_code (X:=cx) false [] (by simp) Tryz.func22 (by kernel_rfl) rfl (by simp only [List.length_cons,List.length_nil,Tryz.ntmps22];decide) (by simp) ?_;refine Ax hm _ _ _ ?_;simp only [Tryz.ntmps22,Tryz.results22,Cb,Ah,Bm,Br,Ce,He,Cn,Ab,B3,Bd,A1,Bc,Bf,A0,Ca,F6,A9,Aj,B8,Dw,Bq,Au,Bt,Ar,G0,Ds,D4,Ag,Ae,A3,Bs,Cs,Cr,A6,A7,B9,Av,Ap,Al,B7,B5,Af,Am,Ao,Co,Ay,A2,Ad,Ac,argW,List.map_cons,List.map_nil,beq_iff_eq,Nat.reduceLT,and_true,Cc,↓reduceIte,reduceCtorEq,L.p.injEq,PV.str.injEq,Bool.and_true,Bool.or_true,Ir,h0])
  (repeat' (first | (refine iteI (fun h=>?_) (fun h=>?_))|(refine B1 (by first | omega | (simp (disch:=omega) only [Aa,Ak,Ai] at *;omega)) ?_;intro b hb)|(refine And.intro (by first | omega | (simp (disch:=omega) only [Aa,Ak,Ai] at *;omega)) ?_)|((first | (refine Ba hm (by rfl) (by kernel_rfl) ?_));simp only [Dh])|(exact True.intro)|(exfalso;omega)))
  refine SWP.loop (fun i:Nat=>⟨Fp 55 [(0,.p (.sl (Gm p))),(3,.p (.str (Vu (p.take i)))),(4,.p (.int .i64 i))],[]⟩) (fun i=>i≤p.length) (fun i=>p.length - i) 0 (by rw [show Vu (p.take 0)=[] from rfl];exact (St.le_slots (by simp only [Cd,Ck,Ac,Be,Aq,Nat.reduceEqDiff,reduceIte,Nat.reduceLT,Nat.reduceLeDiff];simp (disch:=omega) [Aq,A8,Cm,Aa] <;> (repeat' apply And.intro) <;> omega) (by simp (disch:=omega) [Dc,Ee,C9,Bj,Aq,A8,Cm,Aa]) (by simp [De]))) (Nat.zero_le _) ?_
  rintro i hi
  have hT:=Jsm (p:=p.take i) (fun x hx=>hok x (List.mem_of_mem_take hx)) (fun x hx=>hn x (List.mem_of_mem_take hx))
  rw [List.length_take] at hT
  by_cases hlt:¬ i<p.length
  ·have hc:((i:Int)<(p.length:Int))=False:=eq_false (by omega)
   have htl:p.take i=p:=List.take_of_length_le (by omega)
   rw [htl] at hT ⊢
   have hg:=hc
   have hpt:=hc
   have hw:=hc
   have hdw:=hc
   skip
   (refine Ax hm _ _ _ ?_;simp only [Ah,Bm,Br,Eh,Cn,Ab,Ci,B0,Bd,A1,Bc,Bf,A9,Aj,B8,Dw,Bq,Au,Ar,Dm,Ds,D4,Ag,Ae,A3,Bs,Cs,Cr,A6,A7,B9,Av,Ap,Al,B7,B5,Af,Am,Ao,Co,Ay,A2,Ad,Ac,Dy,List.map_cons,List.map_nil,decide_eq_true_eq,Nat.reduceLT,Nat.reduceEqDiff,and_true,Cc,↓reduceIte,reduceCtorEq,L.p.injEq,PV.str.injEq,Bool.and_true,Bool.or_false,Ir,h0,hc])
   rw [Jl9 he]
  ·have hlt:=Decidable.not_not.1 hlt
   obtain ⟨x,hx⟩:∃ x,p[i]? = some x:=⟨_,List.getElem?_eq_getElem hlt⟩
   have hg:=My hx
   have hm':=List.mem_of_getElem? hx
   have hc:((i:Int)<(p.length:Int))=True:=eq_true (by omega)
   have hox:=hok x hm'
   have hnx:=hn x hm'
   have hS:=Jc3 hox hnx
   have hw:=wi1 (i:=i) (by omega)
   have hQ:=Jir x.name
   have hnext:i≠0→Vu (p.take (i+1))=Vu (p.take i) ++ Hh x:=fun h=>by
    rw [List.take_add_one,hx,Option.toList_some,Jmp]
    intro e
    have:=congrArg List.length e
    rw [List.length_take,List.length_nil] at this
    omega
   have hfirst:i=0→Vu (p.take (i+1))=(if x.part=true then 46 :: Hh x else Hh x)∧Vu (p.take i)=[]:=fun h=>by
    subst h
    cases p with
    | nil=>simp at hx
    | cons y p =>
     simp at hx;subst hx
     refine ⟨?_,rfl⟩
     show (if y.part=true then 46 :: Hd [y] else Hd [y])=_
     rw [Jab]
   cases hpt:x.part
   ·unfold Fw at hox
    rw [if_neg (by simp [hpt])] at hox
    by_cases hwd:isWd x.name
    ·have hst:Hh x=46 :: x.name:=by unfold Hh;rw [if_neg (by simp [hpt]),if_pos hwd]
     have hdw:decide (isWd x.name)=true:=decide_eq_true hwd
     (refine Ax hm _ _ _ ?_;simp only [Cb,Ah,Bm,Br,Ce,Ab,Bd,A1,Bc,Bf,Ch,A9,B8,Ed,C8,Cv,Dw,Cg,Bl,Bq,Au,Ar,Dm,Ds,D4,Eo,Cj,Ei,G8,C0,Gb,C5,Dd,Ag,Ae,A3,Cf,Bv,Bi,Bz,Bx,A4,B6,Bh,Az,A5,Cl,Ad,Ac,List.map_cons,List.map_nil,List.length_cons,List.length_nil,List.append_nil,List.flatMap_cons,List.flatMap_nil,List.drop_succ_cons,List.drop_zero,List.getElem?_cons_zero,decide_eq_true_eq,Nat.reduceLT,Nat.reduceLeDiff,Nat.reduceEqDiff,Nat.reduceAdd,true_and,Cc,Bw,↓reduceIte,reduceCtorEq,Int.toNat_natCast,Int.natCast_nonneg,Nat.zero_add,Bool.false_eq_true,Bool.true_and,Bool.or_false,Pa,M1,L5,Kg,Ir,J8,Jj,Iq,h0,hc,hg,hpt])
     (repeat' (first | (refine iteI (fun h=>?_) (fun h=>?_))|(refine B1 (by first | omega | (simp (disch:=omega) only [Aa,Ak,Ai] at *;omega)) ?_;intro b hb)|(refine And.intro (by first | omega | (simp (disch:=omega) only [Aa,Ak,Ai] at *;omega)) ?_)|((first | (refine Ba hm (by rfl) (by kernel_rfl) ?_)|(refine Det.use (K1 x.name (by omega)) ?_)|(refine Det.useQ (K1 x.name (by omega)) ?_));simp only [Ah,Br,Ab,Bk,Bd,A1,Bc,Ct,Bf,A0,Ca,F6,A9,Aj,B8,Ed,C8,Cv,Bl,Bq,Au,Ep,Bt,Ar,E8,Mo,Eo,Cj,Ei,G8,C0,Gb,C5,Dd,Bp,B6,Ad,Ac,Dy,List.map_cons,List.map_nil,List.length_cons,List.length_nil,List.drop_succ_cons,List.drop_zero,List.getElem?_cons_zero,Nat.reduceLT,Nat.reduceLeDiff,Nat.reduceEqDiff,Nat.reduceAdd,true_and,Cc,↓reduceIte,reduceCtorEq,Int.toNat_natCast,Int.natCast_nonneg,Nat.zero_add,Bool.true_and,Bool.or_false,Bool.or_true,L5,Kg,J8,Iq,hg,hpt,hw,hdw])|(exact True.intro)|(exfalso;omega)))
     by_cases hi0:i=0
     ·obtain ⟨hf1,hf2⟩:=hfirst hi0
      rw [if_neg (by simp [hpt]),hst] at hf1
      rw [hf2]
      refine ⟨by simp;omega,i+1,by omega,by omega,?_⟩
      rw [hf1];exact (St.le_slots (by simp only [Cd,Ck,Ac,Be,Aq,Nat.reduceEqDiff,reduceIte,Nat.reduceLT,Nat.reduceLeDiff];simp (disch:=omega) [Aq,A8,Cm,Aa] <;> (repeat' apply And.intro) <;> omega) (by simp (disch:=omega) [Dc,Ee,C9,Bj,Aq,A8,Cm,Aa]) (by simp [De]))
     ·have hn1:=hnext hi0
      rw [hst] at hn1
      refine ⟨by simp;omega,i+1,by omega,by omega,?_⟩
      rw [hn1];simp only [List.append_assoc,List.cons_append,List.nil_append];exact (St.le_slots (by simp only [Cd,Ck,Ac,Be,Aq,Nat.reduceEqDiff,reduceIte,Nat.reduceLT,Nat.reduceLeDiff];simp (disch:=omega) [Aq,A8,Cm,Aa] <;> (repeat' apply And.intro) <;> omega) (by simp (disch:=omega) [Dc,Ee,C9,Bj,Aq,A8,Cm,Aa]) (by simp [De]))
    ·have hst:Hh x=46 :: refQ x.name:=by unfold Hh;rw [if_neg (by simp [hpt]),if_neg hwd]
     have hdw:decide (isWd x.name)=false:=decide_eq_false hwd
     (refine Ax hm _ _ _ ?_;simp only [Cb,Ah,Bm,Br,Ce,Ab,Bd,A1,Bc,Bf,Ch,A9,B8,Ed,C8,Cv,Dw,Cg,Bl,Bq,Au,Ar,Dm,Ds,D4,Eo,Cj,Ei,G8,C0,Gb,C5,Dd,Ag,Ae,A3,Cf,Bv,Bi,Bz,Bx,A4,B6,Bh,Az,A5,Cl,Ad,Ac,List.map_cons,List.map_nil,List.length_cons,List.length_nil,List.append_nil,List.flatMap_cons,List.flatMap_nil,List.drop_succ_cons,List.drop_zero,List.getElem?_cons_zero,decide_eq_true_eq,Nat.reduceLT,Nat.reduceLeDiff,Nat.reduceEqDiff,Nat.reduceAdd,true_and,Cc,Bw,↓reduceIte,reduceCtorEq,Int.toNat_natCast,Int.natCast_nonneg,Nat.zero_add,Bool.false_eq_true,Bool.true_and,Bool.or_false,Pa,M1,L5,Kg,Ir,J8,Jj,Iq,h0,hc,hg,hpt])
     (repeat' (first | (refine iteI (fun h=>?_) (fun h=>?_))|(refine B1 (by first | omega | (simp (disch:=omega) only [Aa,Ak,Ai] at *;omega)) ?_;intro b hb)|(refine And.intro (by first | omega | (simp (disch:=omega) only [Aa,Ak,Ai] at *;omega)) ?_)|((first | (refine Ba hm (by rfl) (by kernel_rfl) ?_)|(refine Det.use (K1 x.name (by omega)) ?_)|(refine Det.useQ (K1 x.name (by omega)) ?_)|(refine Det.use (P2 x.name (by omega)) ?_)|(refine Det.useQ (P2 x.name (by omega)) ?_));simp only [Ah,Br,Ab,Bk,Bd,A1,Bc,Ct,Bf,A0,Ch,Ca,F6,A9,Aj,B8,Ed,C8,Cv,Cg,Bl,Bq,Au,Ep,Bt,Ar,E8,Mo,Eo,Cj,Ei,G8,C0,Gb,C5,Dd,Ag,Ae,A3,Cf,Bv,Bi,Bz,Bx,A4,Bp,B6,Bh,Az,A5,Cl,Ad,Ac,Dy,List.map_cons,List.map_nil,List.length_cons,List.length_nil,List.append_nil,List.flatMap_cons,List.flatMap_nil,List.drop_succ_cons,List.drop_zero,List.getElem?_cons_zero,Nat.reduceLT,Nat.reduceLeDiff,Nat.reduceEqDiff,Nat.reduceAdd,true_and,Cc,Bw,↓reduceIte,reduceCtorEq,Int.toNat_natCast,Int.natCast_nonneg,Nat.zero_add,Bool.false_eq_true,Bool.true_and,Bool.or_false,Bool.or_true,L5,Kg,J8,Iq,hg,hpt,hw,hdw])|(exact True.intro)|(exfalso;omega)))
     by_cases hi0:i=0
     ·obtain ⟨hf1,hf2⟩:=hfirst hi0
      rw [if_neg (by simp [hpt]),hst] at hf1
      rw [hf2]
      refine ⟨by simp;omega,i+1,by omega,by omega,?_⟩
      rw [hf1];exact (St.le_slots (by simp only [Cd,Ck,Ac,Be,Aq,Nat.reduceEqDiff,reduceIte,Nat.reduceLT,Nat.reduceLeDiff];simp (disch:=omega) [Aq,A8,Cm,Aa] <;> (repeat' apply And.intro) <;> omega) (by simp (disch:=omega) [Dc,Ee,C9,Bj,Aq,A8,Cm,Aa]) (by simp [De]))
     ·have hn1:=hnext hi0
      rw [hst] at hn1
      refine ⟨by simp;omega,i+1,by omega,by omega,?_⟩
      rw [hn1];simp only [List.append_assoc,List.cons_append,List.nil_append];exact (St.le_slots (by simp only [Cd,Ck,Ac,Be,Aq,Nat.reduceEqDiff,reduceIte,Nat.reduceLT,Nat.reduceLeDiff];simp (disch:=omega) [Aq,A8,Cm,Aa] <;> (repeat' apply And.intro) <;> omega) (by simp (disch:=omega) [Dc,Ee,C9,Bj,Aq,A8,Cm,Aa]) (by simp [De]))
   ·have hst:Hh x=91 :: (Lib.itoa x.n ++ [93]):=by unfold Hh;rw [if_pos hpt]
    have hb:0≤x.n∧x.n≤1000000:=by unfold Fw at hox;rw [if_pos hpt] at hox;exact hox.2
    have hil:=Ji5 hb.1 hb.2
    obtain ⟨k,hk⟩:∃ k:Nat,x.n=k:=⟨x.n.toNat,by omega⟩
    have hdw:=hk
    rw [hk,Lib.itoa_nonneg] at hil hst
    (refine Ax hm _ _ _ ?_;simp only [Cb,Ah,Bm,Br,Ce,Ab,Bd,A1,Bc,Bf,A0,Ch,Ca,F6,A9,Aj,B8,Ed,C8,Cv,Dw,Cg,Bl,Bq,Au,Ep,Bt,Ar,G0,Dm,Mo,Ds,D4,Eo,Cj,Ei,G8,C0,Gb,C5,Dd,Ag,Ae,A3,Cf,Bv,Bi,Bz,Bx,A4,B6,Bh,Az,A5,Cl,Ad,Ac,List.map_cons,List.map_nil,List.length_cons,List.length_nil,List.cons_append,List.nil_append,List.append_nil,List.flatMap_cons,List.flatMap_nil,List.drop_succ_cons,List.drop_zero,List.getElem?_cons_zero,decide_eq_true_eq,beq_iff_eq,Nat.reduceLT,Nat.reduceLeDiff,Nat.reduceEqDiff,Nat.reduceAdd,true_and,Cc,Bw,↓reduceIte,reduceCtorEq,Int.toNat_natCast,Int.natCast_nonneg,Nat.zero_add,Bool.true_and,Bool.or_false,Bool.or_true,Ox,Mm,Pa,M1,Ir,J8,Jj,L6,h0,hc,hg,hpt,hdw])
    (repeat' (first | (refine iteI (fun h=>?_) (fun h=>?_))|(refine B1 (by first | omega | (simp (disch:=omega) only [Aa,Ak,Ai] at *;omega)) ?_;intro b hb)|(refine And.intro (by first | omega | (simp (disch:=omega) only [Aa,Ak,Ai] at *;omega)) ?_)|((first | (refine Ba hm (by rfl) (by kernel_rfl) ?_)|(refine Det.use (Jgb k (by omega)) ?_)|(refine Det.useQ (Jgb k (by omega)) ?_));simp only [Ah,Ab,Bk,Bd,A1,Bc,Ct,Bf,A0,Ca,F6,A9,Aj,B8,Au,Ep,Bt,Ar,E8,Mo,Bp,B6,Ad,Ac,Dy,List.map_cons,List.map_nil,List.length_cons,List.length_nil,List.cons_append,List.nil_append,Nat.reduceLT,Nat.reduceLeDiff,Nat.reduceEqDiff,Nat.reduceAdd,Cc,↓reduceIte,reduceCtorEq,Nat.zero_add,Bool.or_false,Bool.or_true,hw])|(exact True.intro)|(exfalso;omega)))
    ·have hi0:i=0:=by omega
     obtain ⟨hf1,hf2⟩:=hfirst hi0
     rw [if_pos hpt,hst] at hf1
     refine ⟨i+1,by omega,by omega,?_⟩
     rw [hf1];exact (St.le_slots (by simp only [Cd,Ck,Ac,Be,Aq,Nat.reduceEqDiff,reduceIte,Nat.reduceLT,Nat.reduceLeDiff];simp (disch:=omega) [Aq,A8,Cm,Aa] <;> (repeat' apply And.intro) <;> omega) (by simp (disch:=omega) [Dc,Ee,C9,Bj,Aq,A8,Cm,Aa]) (by simp [De]))
    ·have hn1:=hnext (by omega)
     rw [hst] at hn1
     refine ⟨by simp;omega,by simp;omega,i+1,by omega,by omega,?_⟩
     rw [hn1];simp only [List.append_assoc,List.cons_append,List.nil_append];exact (St.le_slots (by simp only [Cd,Ck,Ac,Be,Aq,Nat.reduceEqDiff,reduceIte,Nat.reduceLT,Nat.reduceLeDiff];simp (disch:=omega) [Aq,A8,Cm,Aa] <;> (repeat' apply And.intro) <;> omega) (by simp (disch:=omega) [Dc,Ee,C9,Bj,Aq,A8,Cm,Aa]) (by simp [De]))
end Go.LX
set_option maxRecDepth 100000
set_option maxHeartbeats 2000000
namespace Go.LX
open Go Go.RowKit Go.Proofs
attribute [local irreducible] B2 SWP Hb
def isDg (c:Nat):Prop:=48≤c∧c≤57
instance (c:Nat):Decidable (isDg c):=inferInstanceAs (Decidable (_∧_))
def dgR:Nat→List UInt8→List UInt8
 | k+1,c :: r=>if isDg c.toNat then c :: dgR k r else []
 | _,_=>[]
def valD (l:List UInt8):Nat:=l.foldl (fun a c=>a * 10+(c.toNat - 48)) 0
def p10:Nat→Nat
 | 0=>1
 | k+1=>10 * p10 k
theorem Jtb:∀ k,k<8→p10 k≤10000000:=by decide
theorem X9 (l:List UInt8) (c:UInt8):valD (l ++ [c])=valD l * 10+(c.toNat - 48):=by simp [valD]
theorem Jox:∀ (n:Nat) (l:List UInt8),l.length=n→(∀ c∈l,isDg c.toNat)→valD l<p10 n
 | 0,l,h,_=>by rw [List.eq_nil_of_length_eq_zero h];decide
 | n+1,l,h,hd=>by
  have hne:l≠[]:=fun e=>by subst e;simp at h
  rw [← List.dropLast_concat_getLast hne,X9]
  have h1:=Jox n l.dropLast (by rw [List.length_dropLast];omega) (fun c hc=>hd c (List.dropLast_subset _ hc))
  have h2:=hd _ (List.getLast_mem hne)
  unfold isDg at h2
  rw [p10];omega
theorem Jii:∀ (k:Nat) (l:List UInt8),∀ c∈dgR k l,isDg c.toNat
 | 0,l=>by simp [dgR]
 | k+1,[]=>by simp [dgR]
 | k+1,c :: r=>by
  intro d hd
  rw [dgR] at hd
  split at hd
  ·rcases List.mem_cons.1 hd with rfl | hd
   ·assumption
   ·exact Jii k r d hd
  ·cases hd
theorem Jb8:∀ (k:Nat) (l:List UInt8),(dgR k l).length≤k∧(dgR k l).length≤l.length
 | 0,l=>by simp [dgR]
 | k+1,[]=>by simp [dgR]
 | k+1,c :: r=>by
  rw [dgR]
  split
  ·have:=Jb8 k r
   simp;omega
  ·simp
theorem Jh6:∀ (k:Nat) (l:List UInt8),dgR k l=l.take (dgR k l).length
 | 0,l=>by simp [dgR]
 | k+1,[]=>by simp [dgR]
 | k+1,c :: r=>by
  rw [dgR]
  split
  ·rw [List.length_cons,List.take_succ_cons,← Jh6 k r]
  ·simp
def figS (s:List UInt8) (i:Nat):Int×Nat :=
 if (dgR 7 (s.drop i)).length=0∨(at_ s i=48∧1<(dgR 7 (s.drop i)).length)∨1000000<valD (dgR 7 (s.drop i)) then (-1,i)
 else (valD (dgR 7 (s.drop i)),i+(dgR 7 (s.drop i)).length)
theorem dgR_step {s:List UInt8} {i k:Nat} (hi:i<s.length) (hd:isDg (at_ s i)) (hk:0<k):dgR k (s.drop i)=s[i] :: dgR (k - 1) (s.drop (i+1)):=by
 rw [List.drop_eq_getElem_cons hi]
 obtain ⟨j,rfl⟩:∃ j,k=j+1:=⟨k - 1,by omega⟩
 rw [dgR,if_pos (by rw [Wt (List.getElem?_eq_getElem hi)] at hd;exact hd)];rfl
theorem Jsu {s:List UInt8} {i k:Nat} (h:¬ (i<s.length∧isDg (at_ s i)∧0<k)):dgR k (s.drop i)=[]:=by
 by_cases hi:i<s.length
 ·rw [List.drop_eq_getElem_cons hi]
  cases k with
  | zero=>rfl
  | succ j=>rw [dgR,if_neg (fun hd=>h ⟨hi,by rw [Wt (List.getElem?_eq_getElem hi)];exact hd,by omega⟩)]
 ·rw [List.drop_eq_nil_of_le (by omega)]
  cases k <;> rfl
theorem V2 (s:List UInt8) (i:Nat) (hs:s.length≤1000000) (hi:i≤s.length):Det cx 187 [.p (.str s),.p (.int .i64 i)] [] (.tup [.int .i64 (figS s i).1,.int .i64 (figS s i).2]) []:=by
 (refine B2.of_code (X:=cx) false [] (by simp) Tryz.func187 (by kernel_rfl) rfl (by simp only [List.length_cons,List.length_nil,Tryz.ntmps187];decide) (by simp) ?_;refine Ax hm _ _ _ ?_;simp only [Tryz.ntmps187,Tryz.results187,Ah,Bm,Ce,He,Ab,Bd,A1,Bc,Bf,A0,Ca,A9,Aj,Ad,Ac,argW,List.map_cons,List.map_nil,Nat.reduceLT,Nat.reduceEqDiff,Int.reduceNeg,Cc,↓reduceIte,reduceCtorEq,Nat.zero_add])
 (repeat' (first | (refine iteI (fun h=>?_) (fun h=>?_))|(refine B1 (by first | omega | (simp (disch:=omega) only [Aa,Ak,Ai] at *;omega)) ?_;intro b hb)|(refine And.intro (by first | omega | (simp (disch:=omega) only [Aa,Ak,Ai] at *;omega)) ?_)|((first | (refine Ba hm (by rfl) (by kernel_rfl) ?_));simp only [Dh])|(exact True.intro)|(exfalso;omega)))
 refine SWP.loop (fun x:Nat×List UInt8=>⟨Fp 63 [(0,.p (.str s)),(1,.p (.int .i64 (i+x.1:Nat))),(6,.p (.int .i64 (valD x.2))),(7,.p (.int .i64 i))],[]⟩) (fun x=>x.1≤7∧i+x.1≤s.length∧x.2.length=x.1∧(∀ c∈x.2,isDg c.toNat)∧x.2 ++ dgR (7 - x.1) (s.drop (i+x.1))=dgR 7 (s.drop i)) (fun x=>7 - x.1) (0,[]) (by rw [show valD []=0 from rfl];exact (St.le_slots (by simp only [Cd,Ck,Ac,Be,Aq,Nat.reduceEqDiff,reduceIte,Nat.reduceLT,Nat.reduceLeDiff];simp (disch:=omega) [Aq,A8,Cm,Aa] <;> (repeat' apply And.intro) <;> omega) (by simp (disch:=omega) [Dc,Ee,C9,Bj,Aq,A8,Cm,Aa]) (by simp [De]))) ⟨by simp,by simp only;omega,rfl,by simp,by simp⟩ ?_
 rintro ⟨k,l⟩ ⟨h1,h2,h3,h4,h5⟩
 simp only at h1 h2 h3 h4 h5
 have hv:=Jox k l h3 h4
 have hp:=Jtb k (by omega)
 have hw:IntKind.i64.wrap (((i+k:Nat):Int) - (i:Int))=(k:Int):=by rw [Aa (by omega) (by omega)];omega
 have hstop:¬ (i+k<s.length∧isDg (at_ s (i+k))∧0<7 - k)→dgR 7 (s.drop i)=l:=fun h=>by
  rw [Jsu h,List.append_nil] at h5
  exact h5.symm
 skip
 (refine Ax hm _ _ _ ?_;simp only [Cb,Ah,Bm,Br,Ce,Eh,Cn,Ab,Ci,B3,Bk,B0,Bd,A1,Da,Bc,D9,Bf,A0,Cw,Ca,A9,Aj,B8,Kb,D0,I7,Dw,Bq,C2,Dq,Db,D1,J2,Dn,Au,Bt,Ar,E8,M5,Jhb,G0,Dm,Pr,Je,Lc,L4,Hz,Kl,Hn,Ds,Dl,Ib,Hf,Ag,Ae,A3,Bs,Cs,Cr,A6,A7,B9,Av,Ap,Al,B7,B5,Af,Am,Ao,Cy,Ay,A2,Ad,Ac,Dy,List.map_cons,List.map_nil,List.getD_cons_zero,List.getD_cons_succ,decide_eq_true_eq,beq_iff_eq,Nat.reduceLT,Nat.reduceEqDiff,Int.reduceNeg,true_and,and_true,Cc,↓reduceIte,reduceCtorEq,Int.toNat_natCast,Int.natCast_nonneg,PV.int.injEq,L.tup.injEq,List.cons.injEq,Bool.false_eq_true,Bool.true_and,Bool.and_true,Bool.or_false,Bool.or_true,Uq,Qs,Hi,hw,wi1 (i:=i) (by omega)])
 (repeat' (first | (refine iteI (fun h=>?_) (fun h=>?_))|(refine B1 (by first | omega | (simp (disch:=omega) only [Aa,Ak,Ai] at *;omega)) ?_;intro b hb)|(refine And.intro (by first | omega | (simp (disch:=omega) only [Aa,Ak,Ai] at *;omega)) ?_)|((first | (refine Ba hm (by rfl) (by kernel_rfl) ?_));simp only [Dh])|(exact True.intro)|(exfalso;omega)))
 all_goals first
  | (exfalso;omega)
  | (
   have e:=hstop (by unfold isDg;omega)
   unfold figS
   rw [e,if_pos (by omega)]
   exact ⟨rfl,rfl⟩)
  | (
   have e:=hstop (by unfold isDg;omega)
   unfold figS
   rw [e,if_neg (by omega),h3]
   exact ⟨rfl,rfl⟩)
  | skip
 have hlt:i+k<s.length:=by omega
 have hd:isDg (at_ s (i+k)):=by unfold isDg;omega
 have hat:at_ s (i+k)=(s[i+k]).toNat:=Wt (List.getElem?_eq_getElem hlt)
 rw [dgR_step hlt hd (by omega)] at h5
 have hp1:=Jtb (k+1) (by omega)
 rw [p10] at hp1
 have hv1:IntKind.i64.wrap (IntKind.i64.wrap ((valD l:Int) * 10)+IntKind.i64.wrap (IntKind.u8.wrap ((at_ s (i+k):Int) - 48)))=((valD (l ++ [s[i+k]]):Nat):Int):=by
  rw [X9,← hat]
  unfold isDg at hd
  simp (disch:=omega) only [Aa,Ak]
  omega
 rw [hv1]
 refine ⟨(k+1,l ++ [s[i+k]]),⟨by simp only;omega,by simp only;omega,by simp only [List.length_append,List.length_singleton];omega,?_,?_⟩,by simp only;omega,?_⟩
 ·intro c hc
  rcases List.mem_append.1 hc with hc | hc
  ·exact h4 c hc
  ·rw [List.mem_singleton] at hc;subst hc;rw [← hat];exact hd
 ·simp only
  rw [← h5,List.append_assoc,List.singleton_append]
  rfl
 ·exact (St.le_slots (by simp only [Cd,Ck,Ac,Be,Aq,Nat.reduceEqDiff,reduceIte,Nat.reduceLT,Nat.reduceLeDiff];simp (disch:=omega) [Aq,A8,Cm,Aa] <;> (repeat' apply And.intro) <;> omega) (by simp (disch:=omega) [Dc,Ee,C9,Bj,Aq,A8,Cm,Aa]) (by simp [De]))
end Go.LX
