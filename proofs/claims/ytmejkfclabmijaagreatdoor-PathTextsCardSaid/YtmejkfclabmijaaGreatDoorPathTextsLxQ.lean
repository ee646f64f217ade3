/- Paths: steps; which are right. -/
import Derived.Test.YtmejkfclabmijaaGreatDoorPathTextsLxP
set_option linter.unusedSimpArgs false
set_option linter.unusedVariables false
set_option linter.unusedSectionVars false
set_option linter.unnecessarySimpa false
set_option maxRecDepth 100000
set_option maxHeartbeats 2000000
namespace Go.LX
open Go Go.RowKit Go.Proofs
attribute [local irreducible] B2 SWP Hb
structure Step where
 part:Bool
 name:List UInt8
 n:Int
def Step.cells (x:Step):List PV:=[.bool x.part,.str x.name,.int .i64 x.n]
def Gm (p:List Step):List (List PV):=p.map Step.cells
@[simp] theorem Dt (p:List Step):(Gm p).length=p.length:=by simp [Gm]
theorem My {p:List Step} {i:Nat} {x:Step} (h:p[i]? = some x):(Gm p)[i]? = some [.bool x.part,.str x.name,.int .i64 x.n]:=by
 simp [Gm,h,Step.cells]
def Fw (x:Step):Prop:=if x.part=true then x.name=[]∧0≤x.n∧x.n≤1000000 else x.n=0∧valid x.name=true
instance (x:Step):Decidable (Fw x):=by unfold Fw;exact inferInstance
def Vf (p:List Step):Prop:=p.length≤20∧∀ x∈p,Fw x
def fewP (p:List Step):Prop:=p.length≤31∧∀ x∈p,x.name.length≤100
instance (p:List Step):Decidable (Vf p):=inferInstanceAs (Decidable (_∧_))
instance (p:List Step):Decidable (fewP p):=inferInstanceAs (Decidable (_∧_))
theorem d_few (p:List Step) (hp:p.length≤140737488355328) (hn:∀ x∈p,x.name.length≤140737488355328):Det cx 14 [.p (.sl (Gm p))] [] (.p (.bool (decide (fewP p)))) []:=by
 (refine B2.of_code (X:=cx) false [] (by simp) Tryz.func14 (by kernel_rfl) rfl (by simp only [List.length_cons,List.length_nil,Tryz.ntmps14];decide) (by simp) ?_;refine Ax hm _ _ _ ?_;simp only [Tryz.ntmps14,Tryz.results14,Ah,Bm,Ce,He,Ab,Bd,A1,Bc,A0,Cw,Ca,Aj,Ad,argW,List.map_cons,List.map_nil,Cc])
 refine SWP.loop (fun i:Nat=>⟨Fp 21 [(0,.p (.sl (Gm p))),(3,.p (.int .i64 i))],[]⟩) (fun i=>i≤p.length∧i≤31∧∀ x∈p.take i,x.name.length≤100) (fun i=>p.length - i) 0 (St.le_slots (by simp only [Cd,Ck,Ac,Be,Aq,Nat.reduceEqDiff,reduceIte,Nat.reduceLT,Nat.reduceLeDiff];simp (disch:=omega) [Aq,A8,Cm,Aa] <;> (repeat' apply And.intro) <;> omega) (by simp (disch:=omega) [Dc,Ee,C9,Bj,Aq,A8,Cm,Aa]) (by simp [De])) ⟨Nat.zero_le _,Nat.zero_le _,by simp⟩ ?_
 rintro i ⟨h1,h2,h3⟩
 by_cases hi:¬ i<p.length
 ·have hc:((i:Int)<(p.length:Int))=False:=eq_false (by omega)
  skip
  (refine Ax hm _ _ _ ?_;simp only [Ah,Bm,Br,Eh,Cn,Ab,Ci,B0,Bd,A1,Bc,Bf,A0,Cw,A9,Aj,B8,Dw,Bq,Au,Ar,Dm,Ds,D4,Ag,Ae,A3,Bs,Cs,Cr,A6,A7,B9,Av,Ap,Al,B7,B5,Af,Am,Ao,Co,Ay,A2,Ad,Ac,Dy,List.map_cons,List.map_nil,decide_eq_true_eq,Nat.reduceLT,Nat.reduceEqDiff,and_true,Cc,↓reduceIte,reduceCtorEq,L.p.injEq,PV.bool.injEq,Bool.and_true,Bool.or_false,Ir,Dt,hc])
  refine (decide_eq_true ?_).symm
  rw [List.take_of_length_le (by omega)] at h3
  exact ⟨by omega,h3⟩
 ·have hi:=Decidable.not_not.1 hi
  obtain ⟨x,hx⟩:∃ x,p[i]? = some x:=⟨_,List.getElem?_eq_getElem hi⟩
  have hg:=My hx
  have hc:((i:Int)<(p.length:Int))=True:=eq_true (by omega)
  skip
  (refine Ax hm _ _ _ ?_;simp only [Cb,Ah,Bm,Br,Ce,Cn,Ab,B3,Bk,Ea,Bd,A1,Da,Bc,D9,Bf,A0,Cw,Ca,A9,Aj,B8,D0,Ed,C8,Cv,Dw,Bl,Bq,C2,Dq,D1,Dn,Au,Bt,Ar,E8,Dm,Je,Ds,Dl,D4,Eo,Cj,Ei,G8,C0,Gb,C5,Dd,Ag,Ae,A3,Bs,Cs,Cr,A6,A7,B9,Av,Ap,Al,B7,B5,Af,Am,Ao,Co,Ay,A2,Ad,Ac,Dy,List.map_cons,List.map_nil,List.getD_cons_zero,List.getD_cons_succ,List.length_cons,List.length_nil,List.drop_succ_cons,List.drop_zero,List.getElem?_cons_zero,decide_eq_true_eq,Nat.reduceLT,Nat.reduceLeDiff,Nat.reduceEqDiff,Nat.reduceAdd,true_and,and_true,Cc,↓reduceIte,reduceCtorEq,Int.toNat_natCast,Int.natCast_nonneg,Nat.zero_add,L.p.injEq,PV.bool.injEq,Bool.false_eq_true,Bool.true_and,Bool.and_true,Bool.or_false,Bool.or_true,Hi,L5,Kg,Ir,J8,Iq,Dt,hc,hg,Dt,wi1 (i:=i) (by omega)])
  (repeat' (first | (refine iteI (fun h=>?_) (fun h=>?_))|(refine B1 (by first | omega | (simp (disch:=omega) only [Aa,Ak,Ai] at *;omega)) ?_;intro b hb)|(refine And.intro (by first | omega | (simp (disch:=omega) only [Aa,Ak,Ai] at *;omega)) ?_)|((first | (refine Ba hm (by rfl) (by kernel_rfl) ?_));simp only [Dh])|(exact True.intro)|(exfalso;omega)))
  ·refine (decide_eq_false fun h=>?_).symm
   have:=h.1
   omega
  ·refine (decide_eq_false fun h=>?_).symm
   have:=h.2 x (List.mem_of_getElem? hx)
   omega
  ·refine ⟨i+1,⟨by omega,by omega,fun y hy=>?_⟩,by omega,(St.le_slots (by simp only [Cd,Ck,Ac,Be,Aq,Nat.reduceEqDiff,reduceIte,Nat.reduceLT,Nat.reduceLeDiff];simp (disch:=omega) [Aq,A8,Cm,Aa] <;> (repeat' apply And.intro) <;> omega) (by simp (disch:=omega) [Dc,Ee,C9,Bj,Aq,A8,Cm,Aa]) (by simp [De]))⟩
   rw [List.take_add_one,hx] at hy
   rcases List.mem_append.1 hy with hy | hy
   ·exact h3 y hy
   ·simp at hy;subst hy;omega
theorem Jpa (x:Step) (hx:x.name.length≤9223372036854775807):Det cx 51 [.p (.agg [.bool x.part,.str x.name,.int .i64 x.n])] [] (.p (.bool (!decide (Fw x)))) []:=by
 cases hp:x.part
 ·(refine B2.of_code (X:=cx) false [] (by simp) Tryz.func51 (by kernel_rfl) rfl (by simp only [List.length_cons,List.length_nil,Tryz.ntmps51];decide) (by simp) ?_;refine Ax hm _ _ _ ?_;simp only [Tryz.ntmps51,Tryz.results51,Cb,Ah,Bm,Br,Cn,Ab,Bd,A1,Da,Bc,D9,Ct,Bf,A0,Ch,Cw,Ca,A9,Aj,B8,D0,Ed,C8,Un,Cg,Bo,Bl,Bq,C2,Dq,D1,Dn,Au,Bt,Ar,Kx,C0,G3,C5,Dv,E0,Qp,Um,Cu,E5,Ag,Ae,A3,Cf,Bv,Bi,Bz,Bx,A4,B6,Bh,Az,A5,Bs,Cs,Cr,A6,A7,B9,Av,Ap,Al,B7,B5,Af,Am,Ao,Co,Ay,Aw,B4,Ez,Cl,A2,Ad,Ac,Bn,Bg,Bb,argW,List.map_cons,List.map_nil,List.getD_cons_zero,List.getD_cons_succ,List.append_nil,List.flatMap_cons,List.flatMap_nil,List.getElem?_cons_zero,List.getElem?_cons_succ,bne_iff_ne,ne_eq,Nat.reduceLT,Nat.reduceEqDiff,true_and,and_true,Cc,Bw,↓reduceIte,Nat.zero_add,L.p.injEq,PV.bool.injEq,Bool.false_eq_true,Bool.true_and,Bool.and_true,Bool.or_true,Ox,Mm,Pa,M1,L5,Kg,Jj,Iq,L6])
  (repeat' (first | (refine iteI (fun h=>?_) (fun h=>?_))|(refine B1 (by first | omega | (simp (disch:=omega) only [Aa,Ak,Ai] at *;omega)) ?_;intro b hb)|(refine And.intro (by first | omega | (simp (disch:=omega) only [Aa,Ak,Ai] at *;omega)) ?_)|((first | (refine Ba hm (by rfl) (by kernel_rfl) ?_)|(refine Det.use (P6 _ hx) ?_)|(refine Det.useQ (P6 _ hx) ?_));simp only [Cn,Ab,Bd,A1,Da,Bc,Ct,Bf,A0,Cw,Aj,N7,D0,C2,Dq,D1,Dn,J7,Ag,Ae,A3,Bp,B6,Bs,Cs,Cr,A6,A7,B9,Av,Ap,Al,B7,B5,Af,Am,Ao,Co,Ay,Aw,A2,Ad,Ac,List.getD_cons_zero,List.getD_cons_succ,Bool.not_eq_eq_eq_not,Nat.reduceLT,Nat.reduceEqDiff,and_true,↓reduceIte,L.p.injEq,PV.bool.injEq,Bool.false_eq_true,Bool.and_true])|(exact True.intro)|(exfalso;omega)))
  ·rw [decide_eq_false (fun h=>by unfold Fw at h;rw [hp,if_neg (by simp)] at h;exact absurd h.1 (by assumption))];rfl
  ·have hn0:x.n=0:=Decidable.not_not.1 (by assumption)
   cases hv:valid x.name
   ·rw [decide_eq_false (fun h=>by unfold Fw at h;rw [hp,if_neg (by simp),hv] at h;cases h.2)];rfl
   ·rw [decide_eq_true (by unfold Fw;rw [hp,if_neg (by simp)];exact ⟨hn0,hv⟩)];rfl
 ·(refine B2.of_code (X:=cx) false [] (by simp) Tryz.func51 (by kernel_rfl) rfl (by simp only [List.length_cons,List.length_nil,Tryz.ntmps51];decide) (by simp) ?_;refine Ax hm _ _ _ ?_;simp only [Tryz.ntmps51,Tryz.results51,Ah,Bm,Br,Cn,Ab,B3,Bd,A1,Da,Bc,D9,Ct,Bf,A0,Cw,Ca,F6,A9,Aj,B8,D0,Ed,C8,Un,Bo,Bl,Bq,C2,Dq,D1,Dn,Au,Ep,Bt,Ar,Dm,Je,Qv,C0,G3,C5,Dv,E0,Qp,Um,Cu,E5,Ag,Ae,A3,Bs,Cs,Cr,A6,A7,B9,Av,Ap,Al,B7,B5,Af,Am,Ao,Co,Ay,Aw,B4,Ez,A2,Ad,Ac,Bn,Bg,Bb,argW,List.map_cons,List.map_nil,List.getD_cons_zero,List.getD_cons_succ,List.getElem?_cons_zero,List.getElem?_cons_succ,decide_eq_true_eq,beq_eq_false_iff_ne,Bool.not_eq_eq_eq_not,ne_eq,Nat.reduceLT,Nat.reduceEqDiff,true_and,and_true,Cc,↓reduceIte,Nat.zero_add,Ai,Bool.not_true,L.p.injEq,PV.bool.injEq,Bool.false_eq_true,Bool.true_and,Bool.and_true,Bool.or_true,Ox,Mm,Pa,M1,L5,Kg,Jj,Iq,L6])
  (repeat' (first | (refine iteI (fun h=>?_) (fun h=>?_))|(refine B1 (by first | omega | (simp (disch:=omega) only [Aa,Ak,Ai] at *;omega)) ?_;intro b hb)|(refine And.intro (by first | omega | (simp (disch:=omega) only [Aa,Ak,Ai] at *;omega)) ?_)|((first | (refine Ba hm (by rfl) (by kernel_rfl) ?_)|(refine Det.use (P6 _ hx) ?_)|(refine Det.useQ (P6 _ hx) ?_));simp only [Dh])|(exact True.intro)|(exfalso;omega)))
  ·rw [decide_eq_false (fun h=>by unfold Fw at h;rw [hp,if_pos rfl] at h;have e:x.name.length=0:=(by rw [h.1];rfl);omega)];rfl
  ·rw [decide_eq_false (fun h=>by unfold Fw at h;rw [hp,if_pos rfl] at h;omega)];rfl
  ·have hn0:x.name=[]:=List.eq_nil_of_length_eq_zero (by omega)
   by_cases hb:1000000<x.n
   ·rw [decide_eq_true hb,decide_eq_false (fun h=>by unfold Fw at h;rw [hp,if_pos rfl] at h;omega)];rfl
   ·rw [decide_eq_false hb,decide_eq_true (by unfold Fw;rw [hp,if_pos rfl];exact ⟨hn0,by omega,by omega⟩)];rfl
def Uu (p:List Step):Nat→Nat→Int
 | 0,_=>-1
 | f+1,i=>match p[i]? with
  | some x=>if Fw x then Uu p f (i+1) else i
  | none=>-1
theorem Yj (p:List Step) (hp:p.length≤1000000) (hx:∀ x∈p,x.name.length≤9223372036854775807):Det cx 116 [.p (.sl (Gm p)),.fn 51 []] [] (.p (.int .i64 (Uu p (p.length+1) 0))) []:=by
 (refine B2.of_code (X:=cx) false [] (by simp) Tryz.func116 (by kernel_rfl) rfl (by simp only [List.length_cons,List.length_nil,Tryz.ntmps116];decide) (by simp) ?_;refine Ax hm _ _ _ ?_;simp only [Tryz.ntmps116,Tryz.results116,Ah,Bm,Ce,He,Ab,Bd,A1,Bc,Bf,A0,Ca,A9,Aj,Dw,Ds,D4,Ad,Ac,argW,List.map_cons,List.map_nil,Nat.reduceLT,Int.reduceNeg,Cc,↓reduceIte,reduceCtorEq,Nat.zero_add,Ir])
 refine SWP.loop (fun x:Nat×Nat=>⟨Fp 19 [(0,.p (.sl (Gm p))),(1,.fn 51 []),(7,.p (.int .i64 p.length)),(8,.p (.int .i64 x.1))],[]⟩) (fun x=>x.1≤p.length∧p.length+1≤x.1+x.2∧Uu p x.2 x.1=Uu p (p.length+1) 0) (fun x=>p.length - x.1) (0,p.length+1) (by simp only [Dt];exact (St.le_slots (by simp only [Cd,Ck,Ac,Be,Aq,Nat.reduceEqDiff,reduceIte,Nat.reduceLT,Nat.reduceLeDiff];simp (disch:=omega) [Aq,A8,Cm,Aa] <;> (repeat' apply And.intro) <;> omega) (by simp (disch:=omega) [Dc,Ee,C9,Bj,Aq,A8,Cm,Aa]) (by simp [De]))) ⟨Nat.zero_le _,by simp,rfl⟩ ?_
 rintro ⟨i,f⟩ ⟨h1,h2,h3⟩
 simp only at h1 h2 h3
 obtain ⟨g,rfl⟩:∃ g,f=g+1:=⟨f - 1,by omega⟩
 rw [Uu] at h3
 by_cases hi:¬ i<p.length
 ·have hc:((i:Int)<(p.length:Int))=False:=eq_false (by omega)
  rw [List.getElem?_eq_none (by omega)] at h3
  skip
  (refine Ax hm _ _ _ ?_;simp only [Ah,Bm,Br,Eh,Cn,Ab,Ci,B0,Bd,A1,Bc,Bf,A0,Ca,Aj,B8,Bq,Au,Ar,Dm,Ag,Ae,A3,Bs,Cs,Cr,A6,A7,B9,Av,Ap,Al,B7,B5,Af,Am,Ao,Co,Ay,A2,Ad,Ac,Dy,List.map_cons,List.map_nil,decide_eq_true_eq,Nat.reduceLT,Nat.reduceEqDiff,Int.reduceNeg,true_and,and_true,Cc,↓reduceIte,reduceCtorEq,L.p.injEq,PV.int.injEq,Bool.true_and,Bool.and_true,Bool.or_false,hc])
  rw [← h3]
 ·have hi:=Decidable.not_not.1 hi
  obtain ⟨x,hxi⟩:∃ x,p[i]? = some x:=⟨_,List.getElem?_eq_getElem hi⟩
  have hg:=My hxi
  have hc:((i:Int)<(p.length:Int))=True:=eq_true (by omega)
  rw [hxi] at h3
  simp only at h3
  skip
  (refine Ax hm _ _ _ ?_;simp only [Cb,Ah,Bm,Br,Ce,Ab,Bd,A1,Bc,Bf,A9,Aj,B8,Ed,Cv,Cg,Bl,Bq,Au,Ar,Dm,Eo,Cj,Ei,C5,I6,Ag,Ae,A3,Cf,Bv,Bi,Bz,Bx,A4,B6,Bh,Az,A5,Cl,Ad,Ac,List.map_cons,List.map_nil,List.length_cons,List.length_nil,List.append_nil,List.flatMap_cons,List.flatMap_nil,List.take_succ_cons,List.take_nil,decide_eq_true_eq,Nat.reduceLT,Nat.reduceLeDiff,Nat.reduceEqDiff,Nat.reduceAdd,Int.reduceNeg,true_and,Cc,Bw,↓reduceIte,reduceCtorEq,Int.toNat_natCast,Int.natCast_nonneg,Nat.zero_add,Bool.true_and,Bool.or_false,J8,J0,Jm,hc,hg,wi1 (i:=i) (by omega)])
  (repeat' (first | (refine iteI (fun h=>?_) (fun h=>?_))|(refine B1 (by first | omega | (simp (disch:=omega) only [Aa,Ak,Ai] at *;omega)) ?_;intro b hb)|(refine And.intro (by first | omega | (simp (disch:=omega) only [Aa,Ak,Ai] at *;omega)) ?_)|((first | (refine Ba hm (by rfl) (by kernel_rfl) ?_)|(refine Det.use (Jpa x (hx x (List.mem_of_getElem? hxi))) ?_)|(refine Det.useQ (Jpa x (hx x (List.mem_of_getElem? hxi))) ?_));simp only [Cb,Ah,Bm,Br,Cn,Ab,B3,Bk,Ea,Bd,A1,Bc,Ct,Bf,A0,Ca,A9,Aj,B8,Bq,Au,Bt,Ar,E8,Ag,Ae,A3,Bp,B6,Bs,Cs,Cr,A6,A7,B9,Av,Ap,Al,B7,B5,Af,Am,Ao,Co,Ay,A2,Ad,Ac,Dy,List.map_cons,List.map_nil,decide_eq_false_iff_not,Bool.not_eq_eq_eq_not,Nat.reduceLT,Nat.reduceEqDiff,Int.reduceNeg,true_and,and_true,Cc,↓reduceIte,reduceCtorEq,Bool.not_true,L.p.injEq,PV.int.injEq,Bool.true_and,Bool.and_true,Bool.or_true,wi1 (i:=i) (by omega)])|(exact True.intro)|(exfalso;omega)))
  ·rw [if_neg (by assumption)] at h3
   rw [h3]
  ·rw [if_pos (by first | assumption | exact Decidable.not_not.1 (by assumption))] at h3
   exact ⟨(i+1,g),⟨by simp only;omega,by simp only;omega,h3⟩,by simp only;omega,(St.le_slots (by simp only [Cd,Ck,Ac,Be,Aq,Nat.reduceEqDiff,reduceIte,Nat.reduceLT,Nat.reduceLeDiff];simp (disch:=omega) [Aq,A8,Cm,Aa] <;> (repeat' apply And.intro) <;> omega) (by simp (disch:=omega) [Dc,Ee,C9,Bj,Aq,A8,Cm,Aa]) (by simp [De]))⟩
theorem Jcl {p:List Step}:∀ (f i:Nat),p.length+1≤i+f→i≤p.length→(Uu p f i<0 ↔ ∀ x∈p.drop i,Fw x)
 | 0,i,h,hi=>by omega
 | f+1,i,h,hi=>by
  rw [Uu]
  by_cases hl:i<p.length
  ·rw [List.getElem?_eq_getElem hl,List.drop_eq_getElem_cons hl]
   simp only
   by_cases hs:Fw p[i]
   ·rw [if_pos hs,Jcl f (i+1) (by omega) (by omega)]
    exact ⟨fun h x hx=>(List.mem_cons.1 hx).elim (fun e=>e ▸ hs) (h x),fun h x hx=>h x (List.mem_cons_of_mem _ hx)⟩
   ·rw [if_neg hs]
    constructor
    ·intro h;omega
    ·intro h;exact absurd (h _ List.mem_cons_self) hs
  ·rw [List.getElem?_eq_none (by omega),List.drop_eq_nil_of_le (by omega)]
   simp
theorem Oq (p:List Step) (hp:p.length≤1000000) (hx:∀ x∈p,x.name.length≤9223372036854775807):Det cx 53 [.p (.sl (Gm p)),.fn 51 []] [] (.p (.bool (!decide (∀ x∈p,Fw x)))) []:=by
 have hw:=Jcl (p:=p) (p.length+1) 0 (by omega) (Nat.zero_le _)
 rw [List.drop_zero] at hw
 (refine B2.of_code (X:=cx) false [] (by simp) Tryz.func53 (by kernel_rfl) rfl (by simp only [List.length_cons,List.length_nil,Tryz.ntmps53];decide) (by simp) ?_;refine Ax hm _ _ _ ?_;simp only [Tryz.ntmps53,Tryz.results53,Ah,Bm,Ab,Bd,A1,Bc,Bf,A0,Ch,Cw,A9,Aj,Cg,Ag,Ae,A3,Jd8,Cf,Bv,Bi,Bz,Bx,A4,B6,T9,Y2,Bh,Az,A5,Cl,Jiz,C7,Ad,Ac,argW,List.map_cons,List.map_nil,List.append_nil,List.flatMap_cons,List.flatMap_nil,Nat.reduceLT,Nat.reduceEqDiff,Cc,Bw,↓reduceIte,reduceCtorEq,Nat.zero_add])
 (repeat' (first | (refine iteI (fun h=>?_) (fun h=>?_))|(refine B1 (by first | omega | (simp (disch:=omega) only [Aa,Ak,Ai] at *;omega)) ?_;intro b hb)|(refine And.intro (by first | omega | (simp (disch:=omega) only [Aa,Ak,Ai] at *;omega)) ?_)|((first | (refine Ba hm (by rfl) (by kernel_rfl) ?_)|(refine Det.use (Yj p hp hx) ?_)|(refine Det.useQ (Yj p hp hx) ?_));simp only [Cn,Ab,Bd,A1,Bc,Ct,Bf,A0,Ca,Aj,B8,Au,Bt,Ar,Lc,Ag,Ae,A3,Bp,B6,Bs,Cs,Cr,A6,A7,B9,Av,Ap,Al,B7,B5,Af,Am,Ao,Co,Ay,A2,Ad,Ac,Nat.reduceLT,and_true,Cc,↓reduceIte,L.p.injEq,PV.bool.injEq,Bool.and_true,Bool.or_true])|(exact True.intro)|(exfalso;omega)))
 by_cases h:∀ x∈p,Fw x
 ·have:=hw.2 h
  rw [decide_eq_true h,decide_eq_false (by omega)];rfl
 ·have:¬ Uu p (p.length+1) 0<0:=fun hc=>h (hw.1 hc)
  rw [decide_eq_false h,decide_eq_true (by omega)];rfl
theorem Jpo (p:List Step) (hx:∀ x∈p,x.name.length≤9223372036854775807):Det cx 19 [.p (.sl (Gm p))] [] (.p (.bool (decide (Vf p)))) []:=by
 skip
 (refine B2.of_code (X:=cx) false [] (by simp) Tryz.func19 (by kernel_rfl) rfl (by simp only [List.length_cons,List.length_nil,Tryz.ntmps19];decide) (by simp) ?_;refine Ax hm _ _ _ ?_;simp only [Tryz.ntmps19,Tryz.results19,Ah,Bm,Cn,Ab,Bd,A1,Da,Bc,D9,Bf,A0,Ch,Cw,Ca,A9,Aj,B8,D0,Dw,Cg,C2,Dq,Db,Dn,Au,Bt,Ar,Pr,Ds,D4,Ag,Ae,A3,Jd8,Cf,Bv,Bi,Bz,Bx,A4,B6,T9,Y2,Bh,Az,A5,Bs,Cs,Cr,A6,A7,B9,Av,Ap,Al,B7,B5,Af,Am,Ao,Co,Ay,Cl,Jiz,C7,A2,Ad,Ac,argW,List.map_cons,List.map_nil,List.getD_cons_zero,List.getD_cons_succ,List.append_nil,List.flatMap_cons,List.flatMap_nil,decide_eq_true_eq,Nat.reduceLT,Nat.reduceEqDiff,and_true,Cc,Bw,↓reduceIte,reduceCtorEq,L.p.injEq,PV.bool.injEq,Bool.false_eq_true,Bool.and_true,Bool.or_true,Ir,Dt])
 (repeat' (first | (refine iteI (fun h=>?_) (fun h=>?_))|(refine B1 (by first | omega | (simp (disch:=omega) only [Aa,Ak,Ai] at *;omega)) ?_;intro b hb)|(refine And.intro (by first | omega | (simp (disch:=omega) only [Aa,Ak,Ai] at *;omega)) ?_)|((first | (refine Ba hm (by rfl) (by kernel_rfl) ?_)|(refine Det.use (Oq p (by omega) hx) ?_)|(refine Det.useQ (Oq p (by omega) hx) ?_)|(refine Er.use (Oq p (by omega) hx) ?_)|(refine Dp.use (Oq p (by omega) hx) ?_));simp only [Cn,Ab,Bd,A1,Da,Bc,Ct,Bf,A0,Cw,Aj,N7,D0,C2,Dq,Db,Dn,J7,Ag,Ae,A3,Bp,B6,Bs,Cs,Cr,A6,A7,B9,Av,Ap,Al,B7,B5,Af,Am,Ao,Co,Ay,A2,Ad,Ac,List.getD_cons_zero,List.getD_cons_succ,Bool.not_eq_eq_eq_not,Nat.reduceLT,Nat.reduceEqDiff,and_true,↓reduceIte,L.p.injEq,PV.bool.injEq,Bool.and_true])|(exact True.intro)|(exfalso;omega)))
 ·rw [Bool.not_not];exact decide_eq_decide.2 ⟨fun h=>⟨by omega,h⟩,fun h=>h.2⟩
 ·exact (decide_eq_false (fun h=>by have:=h.1;omega)).symm
theorem Jn2 (p:List Step) (hp:p.length≤1000000) (hn:∀ x∈p,x.name.length≤1000000):Det cx 20 [.p (.sl (Gm p))] [] (.p (.bool (decide (Vf p)))) []:=by
 (refine B2.of_code (X:=cx) false [] (by simp) Tryz.func20 (by kernel_rfl) rfl (by simp only [List.length_cons,List.length_nil,Tryz.ntmps20];decide) (by simp) ?_;refine Ax hm _ _ _ ?_;simp only [Tryz.ntmps20,Tryz.results20,Ah,Bm,Ce,He,Ab,Bd,A1,Bc,A0,Cw,Ca,Aj,Ad,argW,List.map_cons,List.map_nil,Cc])
 refine SWP.loop (fun i:Nat=>⟨Fp 67 [(0,.p (.sl (Gm p))),(3,.p (.int .i64 i))],[]⟩) (fun i=>i≤p.length∧∀ x∈p.take i,Fw x) (fun i=>p.length - i) 0 (St.le_slots (by simp only [Cd,Ck,Ac,Be,Aq,Nat.reduceEqDiff,reduceIte,Nat.reduceLT,Nat.reduceLeDiff];simp (disch:=omega) [Aq,A8,Cm,Aa] <;> (repeat' apply And.intro) <;> omega) (by simp (disch:=omega) [Dc,Ee,C9,Bj,Aq,A8,Cm,Aa]) (by simp [De])) ⟨Nat.zero_le _,by simp⟩ ?_
 rintro i ⟨h1,h3⟩
 by_cases hi:¬ i<p.length
 ·have hc:((i:Int)<(p.length:Int))=False:=eq_false (by omega)
  skip
  (refine Ax hm _ _ _ ?_;simp only [Ah,Bm,Br,Eh,Cn,Ab,Ci,B0,Bd,A1,Bc,Bf,A0,Ca,A9,Aj,B8,Dw,Bq,Au,Bt,Ar,Dm,Pr,Ds,D4,Ag,Ae,A3,Bs,Cs,Cr,A6,A7,B9,Av,Ap,Al,B7,B5,Af,Am,Ao,Co,Ay,A2,Ad,Ac,Dy,List.map_cons,List.map_nil,decide_eq_true_eq,Nat.reduceLT,Nat.reduceEqDiff,and_true,Cc,↓reduceIte,reduceCtorEq,L.p.injEq,PV.bool.injEq,Bool.and_true,Bool.or_false,Bool.or_true,Ir,Dt,hc])
  rw [List.take_of_length_le (by omega)] at h3
  by_cases hl:p.length≤20
  ·rw [decide_eq_true (show (p.length:Int)≤20 by omega),decide_eq_true ⟨hl,h3⟩]
  ·rw [decide_eq_false (show ¬ (p.length:Int)≤20 by omega),decide_eq_false (fun h=>hl h.1)]
 ·have hi:=Decidable.not_not.1 hi
  obtain ⟨x,hx⟩:∃ x,p[i]? = some x:=⟨_,List.getElem?_eq_getElem hi⟩
  have hg:=My hx
  have hm':=List.mem_of_getElem? hx
  have hc:((i:Int)<(p.length:Int))=True:=eq_true (by omega)
  have next:Fw x→∀ y∈p.take (i+1),Fw y:=fun hs y hy=>by
   rw [List.take_add_one,hx] at hy
   rcases List.mem_append.1 hy with hy | hy
   ·exact h3 y hy
   ·simp at hy;subst hy;exact hs
  have bad:¬ Fw x→false=decide (Vf p):=fun hs=>(decide_eq_false fun h=>hs (h.2 x hm')).symm
  cases hpt:x.part
  ·skip
   (refine Ax hm _ _ _ ?_;simp only [Cb,Ah,Bm,Br,Ce,Cn,Ab,B3,Ea,Bd,A1,Da,Bc,D9,Bf,A0,Ch,Cw,Ca,A9,Aj,B8,N7,D0,Ed,C8,Cv,Dw,Cg,Bl,Bq,C2,Dq,Db,D1,J2,Dn,Au,Bt,Ar,Kx,Dm,J7,Ds,D4,Eo,Cj,Ei,G8,C0,Gb,C5,Dd,Ag,Ae,A3,Cf,Bv,Bi,Bz,Bx,A4,B6,Bh,Az,A5,Bs,Cs,Cr,A6,A7,B9,Av,Ap,Al,B7,B5,Af,Am,Ao,Co,Ay,Cl,A2,Ad,Ac,Dy,List.map_cons,List.map_nil,List.getD_cons_zero,List.getD_cons_succ,List.length_cons,List.length_nil,List.append_nil,List.flatMap_cons,List.flatMap_nil,List.drop_succ_cons,List.drop_zero,List.getElem?_cons_zero,decide_eq_true_eq,bne_iff_ne,ne_eq,Nat.reduceLT,Nat.reduceLeDiff,Nat.reduceEqDiff,Nat.reduceAdd,true_and,and_true,Cc,Bw,↓reduceIte,reduceCtorEq,Int.toNat_natCast,Int.natCast_nonneg,Nat.zero_add,Bool.not_false,L.p.injEq,PV.bool.injEq,Bool.false_eq_true,Bool.true_and,Bool.and_true,Bool.or_false,Bool.or_true,Ox,Mm,Pa,M1,L5,Kg,Ir,J8,Jj,Iq,L6,Dt,hc,hg,hpt,wi1 (i:=i) (by omega)])
   (repeat' (first | (refine iteI (fun h=>?_) (fun h=>?_))|(refine B1 (by first | omega | (simp (disch:=omega) only [Aa,Ak,Ai] at *;omega)) ?_;intro b hb)|(refine And.intro (by first | omega | (simp (disch:=omega) only [Aa,Ak,Ai] at *;omega)) ?_)|((first | (refine Ba hm (by rfl) (by kernel_rfl) ?_)|(refine Det.use (Rg x.name (hn x hm')) ?_)|(refine Det.useQ (Rg x.name (hn x hm')) ?_));simp only [Cb,Ah,Bm,Br,Cn,Ab,B3,Bk,Ea,Bd,A1,Da,Bc,Ct,Bf,A0,Cw,Ca,A9,Aj,B8,N7,D0,Bq,C2,Dq,Db,D1,Dn,Au,Bt,Ar,E8,J7,Ag,Ae,A3,Bp,B6,Bs,Cs,Cr,A6,A7,B9,Av,Ap,Al,B7,B5,Af,Am,Ao,Co,Ay,A2,Ad,Ac,Dy,List.map_cons,List.map_nil,List.getD_cons_zero,List.getD_cons_succ,Bool.not_eq_eq_eq_not,Nat.reduceLT,Nat.reduceEqDiff,and_true,Cc,↓reduceIte,reduceCtorEq,Bool.not_true,L.p.injEq,PV.bool.injEq,Bool.false_eq_true,Bool.and_true,Bool.or_true,wi1 (i:=i) (by omega)])|(exact True.intro)|(exfalso;omega)))
   ·exact bad (fun hs=>by unfold Fw at hs;rw [hpt,if_neg (by simp)] at hs;exact absurd hs.1 (by assumption))
   ·exact bad (fun hs=>by unfold Fw at hs;rw [hpt,if_neg (by simp)] at hs;simp_all)
   ·refine ⟨i+1,⟨by omega,next ?_⟩,by omega,(St.le_slots (by simp only [Cd,Ck,Ac,Be,Aq,Nat.reduceEqDiff,reduceIte,Nat.reduceLT,Nat.reduceLeDiff];simp (disch:=omega) [Aq,A8,Cm,Aa] <;> (repeat' apply And.intro) <;> omega) (by simp (disch:=omega) [Dc,Ee,C9,Bj,Aq,A8,Cm,Aa]) (by simp [De]))⟩
    unfold Fw
    rw [hpt,if_neg (by simp)]
    exact ⟨by omega,by simp_all⟩
  ·skip
   (refine Ax hm _ _ _ ?_;simp only [Cb,Ah,Bm,Br,Ce,Cn,Ab,B3,Bk,Ea,Bd,A1,Da,Bc,D9,Bf,A0,Cw,Ca,F6,A9,Aj,B8,N7,D0,Ed,C8,Cv,Dw,Bl,Bq,C2,Dq,Db,D1,J2,Dn,Au,Ep,Bt,Ar,E8,Dm,Je,Qv,J7,Ds,D4,Eo,Cj,Ei,G8,C0,Gb,C5,Dd,Ag,Ae,A3,Bs,Cs,Cr,A6,A7,B9,Av,Ap,Al,B7,B5,Af,Am,Ao,Co,Ay,A2,Ad,Ac,Dy,List.map_cons,List.map_nil,List.getD_cons_zero,List.getD_cons_succ,List.length_cons,List.length_nil,List.drop_succ_cons,List.drop_zero,List.getElem?_cons_zero,decide_eq_true_eq,beq_eq_false_iff_ne,Bool.not_eq_eq_eq_not,ne_eq,Nat.reduceLT,Nat.reduceLeDiff,Nat.reduceEqDiff,Nat.reduceAdd,true_and,and_true,Cc,↓reduceIte,reduceCtorEq,Int.toNat_natCast,Int.natCast_nonneg,Nat.zero_add,Ai,Bool.not_true,L.p.injEq,PV.bool.injEq,Bool.false_eq_true,Bool.true_and,Bool.and_true,Bool.or_false,Bool.or_true,Ox,Mm,Pa,M1,L5,Kg,Ir,J8,Jj,Iq,L6,Dt,hc,hg,hpt,wi1 (i:=i) (by omega),hg,hpt,wi1 (i:=i) (by omega)])
   (repeat' (first | (refine iteI (fun h=>?_) (fun h=>?_))|(refine B1 (by first | omega | (simp (disch:=omega) only [Aa,Ak,Ai] at *;omega)) ?_;intro b hb)|(refine And.intro (by first | omega | (simp (disch:=omega) only [Aa,Ak,Ai] at *;omega)) ?_)|((first | (refine Ba hm (by rfl) (by kernel_rfl) ?_));simp only [Dh])|(exact True.intro)|(exfalso;omega)))
   ·exact bad (fun hs=>by unfold Fw at hs;rw [hpt,if_pos rfl] at hs;have e:x.name.length=0:=(by rw [hs.1];rfl);omega)
   ·exact bad (fun hs=>by unfold Fw at hs;rw [hpt,if_pos rfl] at hs;omega)
   ·exact bad (fun hs=>by unfold Fw at hs;rw [hpt,if_pos rfl] at hs;omega)
   ·refine ⟨i+1,⟨by omega,next ?_⟩,by omega,(St.le_slots (by simp only [Cd,Ck,Ac,Be,Aq,Nat.reduceEqDiff,reduceIte,Nat.reduceLT,Nat.reduceLeDiff];simp (disch:=omega) [Aq,A8,Cm,Aa] <;> (repeat' apply And.intro) <;> omega) (by simp (disch:=omega) [Dc,Ee,C9,Bj,Aq,A8,Cm,Aa]) (by simp [De]))⟩
    unfold Fw
    rw [hpt,if_pos rfl]
    exact ⟨List.eq_nil_of_length_eq_zero (by omega),by omega,by omega⟩
end Go.LX
set_option maxRecDepth 100000
set_option maxHeartbeats 2000000
namespace Go.LX
open Go Go.RowKit Go.Proofs
attribute [local irreducible] B2 SWP Hb
def wrs (s:List UInt8):List UInt8:=s.flatMap fun c=>wr c.toNat
def refQ (s:List UInt8):List UInt8:=34 :: wrs s ++ [34]
theorem wr_le (c:Nat):(wr c).length≤6:=by
 unfold wr
 repeat' split
 all_goals simp
theorem Jna (s:List UInt8):(wrs s).length≤6 * s.length:=by
 induction s with
 | nil=>simp [wrs]
 | cons c s ih =>
  have:=wr_le c.toNat
  simp only [wrs,List.flatMap_cons,List.length_append,List.length_cons] at ih ⊢
  omega
theorem wrs_take {s:List UInt8} {i:Nat} (h:i<s.length):wrs (s.take (i+1))=wrs (s.take i) ++ wr (at_ s i):=by
 have e:s.take (i+1)=s.take i ++ [s[i]]:=by rw [List.take_add_one,List.getElem?_eq_getElem h];rfl
 rw [e]
 simp only [wrs,List.flatMap_append,List.flatMap_cons,List.flatMap_nil,List.append_nil,Jfg h]
@[simp] theorem wrs_nil:wrs []=[]:=rfl
theorem P2 (s:List UInt8) (hs:s.length≤1000000):Det cx 58 [.p (.str s)] [] (.p (.str (refQ s))) []:=by
 (refine B2.of_code (X:=cx) false [] (by simp) Tryz.func58 (by kernel_rfl) rfl (by simp only [List.length_cons,List.length_nil,Tryz.ntmps58];decide) (by simp) ?_;refine Ax hm _ _ _ ?_;simp only [Tryz.ntmps58,Tryz.results58,Ah,Bm,Ce,He,Ab,Bd,A1,Bc,A0,Ca,F6,Aj,Ad,argW,List.map_cons,List.map_nil,Cc])
 refine SWP.loop (fun i:Nat=>⟨Fp 19 [(0,.p (.str s)),(3,.p (.str (34 :: wrs (s.take i)))),(4,.p (.int .i64 i))],[]⟩) (fun i=>i≤s.length) (fun i=>s.length - i) 0 (St.le_slots (by simp only [Cd,Ck,Ac,Be,Aq,Nat.reduceEqDiff,reduceIte,Nat.reduceLT,Nat.reduceLeDiff];simp (disch:=omega) [Aq,A8,Cm,Aa] <;> (repeat' apply And.intro) <;> omega) (by simp (disch:=omega) [Dc,Ee,C9,Bj,Aq,A8,Cm,Aa]) (by simp [De])) (Nat.zero_le _) ?_
 rintro i h1
 have hw:=Jna (s.take i)
 have hl:(s.take i).length≤s.length:=List.length_take_le' ..
 have hr:=wr_le (at_ s i)
 skip
 (refine Ax hm _ _ _ ?_;simp only [Cb,Ah,Bm,Br,Ce,Eh,Cn,Ab,Ci,B0,Bd,A1,Bc,Bf,A0,Ch,F6,A9,Aj,B8,I7,Dw,Cg,Bq,Au,Ep,Bt,Ar,Dm,Mo,Ds,Dl,Ib,Hf,Ag,Ae,A3,Cf,Bv,Bi,Bz,Bx,A4,B6,Bh,Az,A5,Bs,Cs,Cr,A6,A7,B9,Av,Ap,Al,B7,B5,Af,Am,Ao,Co,Ay,Cl,A2,Ad,Ac,Dy,List.map_cons,List.map_nil,List.length_cons,List.length_nil,List.cons_append,List.append_nil,List.flatMap_cons,List.flatMap_nil,decide_eq_true_eq,Nat.reduceLT,Nat.reduceLeDiff,Nat.reduceEqDiff,true_and,and_true,Cc,Bw,↓reduceIte,reduceCtorEq,Int.toNat_natCast,Int.natCast_nonneg,Nat.zero_add,L.p.injEq,PV.str.injEq,Bool.true_and,Bool.and_true,Bool.or_false,Bool.or_true,Hi,wi1 (i:=i) (by omega)])
 (repeat' (first | (refine iteI (fun h=>?_) (fun h=>?_))|(refine B1 (by first | omega | (simp (disch:=omega) only [Aa,Ak,Ai] at *;omega)) ?_;intro b hb)|(refine And.intro (by first | omega | (simp (disch:=omega) only [Aa,Ak,Ai] at *;omega)) ?_)|((first | (refine Ba hm (by rfl) (by kernel_rfl) ?_)|(refine Det.use (Jf0 _ (Nd s i)) ?_)|(refine Det.useQ (Jf0 _ (Nd s i)) ?_));simp only [Ah,Ab,Bk,Bd,A1,Bc,Ct,Bf,A0,Ca,A9,Aj,B8,Au,Ep,Bt,Ar,E8,Mo,Bp,B6,Ad,Ac,Dy,List.map_cons,List.map_nil,List.length_cons,List.cons_append,Nat.reduceLT,Nat.reduceEqDiff,Cc,↓reduceIte,reduceCtorEq,Bool.or_false,Bool.or_true,wi1 (i:=i) (by omega)])|(exact True.intro)|(exfalso;omega)))
 ·refine ⟨i+1,by omega,by omega,?_⟩
  rw [wrs_take (by omega)]
  exact (St.le_slots (by simp only [Cd,Ck,Ac,Be,Aq,Nat.reduceEqDiff,reduceIte,Nat.reduceLT,Nat.reduceLeDiff];simp (disch:=omega) [Aq,A8,Cm,Aa] <;> (repeat' apply And.intro) <;> omega) (by simp (disch:=omega) [Dc,Ee,C9,Bj,Aq,A8,Cm,Aa]) (by simp [De]))
 ·rw [List.take_of_length_le (by omega)];rfl
def u4 (s:List UInt8):Int:=if 6≤s.length∧at_ s 0=92∧at_ s 1=117 then (match hexN ((s.drop 2).take 4) 0 with | some n=>(n:Int) | none=>-1) else -1
theorem u4_drop (s:List UInt8) (i:Nat):u4 (s.drop i)=if i+6≤s.length∧at_ s i=92∧at_ s (i+1)=117 then (match hexN ((s.drop (i+2)).take 4) 0 with | some n=>(n:Int) | none=>-1) else -1:=by
 have e:(6≤(s.drop i).length∧at_ (s.drop i) 0=92∧at_ (s.drop i) 1=117)=(i+6≤s.length∧at_ s i=92∧at_ s (i+1)=117):=by
  simp only [List.length_drop,Pf,Nat.add_zero]
  apply propext
  omega
 unfold u4
 simp only [e,List.drop_drop,Nat.add_comm 2 i]
theorem Jtd (s:List UInt8) (i:Nat) (hs:s.length≤1000000) (hi:i≤2000000):Det cx 274 [.p (.str s),.p (.int .i64 i)] [] (.p (.int .i64 (u4 (s.drop i)))) []:=by
 have hA:=Nd s i
 have hB:=Nd s (i+1)
 skip
 (refine B2.of_code (X:=cx) false [] (by simp) Tryz.func274 (by kernel_rfl) rfl (by simp only [List.length_cons,List.length_nil,Tryz.ntmps274];decide) (by simp) ?_;refine Ax hm _ _ _ ?_;simp only [Tryz.ntmps274,Tryz.results274,Cb,Ah,Bm,Br,Ce,He,Cn,Ab,B3,Bd,A1,Da,Bc,D9,Bf,A0,Cw,Ca,A9,Aj,B8,D0,I7,Dw,Bq,C2,Dq,D1,Dn,Au,Bt,Ar,E8,Kx,Je,Ds,Dl,Ib,Hf,Ag,Ae,A3,Bs,Cs,Cr,A6,A7,B9,Av,Ap,Al,B7,B5,Af,Am,Ao,Co,Ay,A2,Ad,Ac,argW,List.map_cons,List.map_nil,List.getD_cons_zero,List.getD_cons_succ,decide_eq_true_eq,bne_iff_ne,ne_eq,Nat.reduceLT,Nat.reduceEqDiff,Int.reduceNeg,true_and,and_true,Cc,↓reduceIte,reduceCtorEq,Int.toNat_natCast,Int.natCast_nonneg,Nat.zero_add,L.p.injEq,PV.int.injEq,Bool.false_eq_true,Bool.true_and,Bool.and_true,Bool.or_false,Bool.or_true,Hi,wi1 (i:=i) (by omega),wi2 (i:=i) (by omega),wi6 (i:=i) (by omega)])
 rw [u4_drop]
 (repeat' (first | (refine iteI (fun h=>?_) (fun h=>?_))|(refine B1 (by first | omega | (simp (disch:=omega) only [Aa,Ak,Ai] at *;omega)) ?_;intro b hb)|(refine And.intro (by first | omega | (simp (disch:=omega) only [Aa,Ak,Ai] at *;omega)) ?_)|((first | (refine Ba hm (by rfl) (by kernel_rfl) ?_));simp only [Dh])|(exact True.intro)|(exfalso;omega)))
 ·rw [if_neg (by omega)]
 ·rw [if_neg (by omega)]
 ·rw [if_neg (by omega)]
 rw [if_pos (by omega)]
 have hT:((s.drop (i+2)).take 4).length=4:=by simp;omega
 have hTa:∀ j,j<4→at_ ((s.drop (i+2)).take 4) j=at_ s (i+2+j):=fun j hj=>by
  rw [← Pf]
  simp [at_,List.getD_eq_getElem?_getD,List.getElem?_take,hj]
 generalize (s.drop (i+2)).take 4=T at *
 refine SWP.loop (fun x:Nat×Nat=>⟨Fp 77 [(0,.p (.str s)),(1,.p (.int .i64 i)),(5,.p (.int .i64 x.2)),(6,.p (.int .i64 (i+2+x.1:Nat)))],[]⟩) (fun x=>x.1≤4∧x.2<16 ^ x.1∧hexN (T.drop x.1) x.2=hexN T 0) (fun x=>4 - x.1) (0,0) (St.le_slots (by simp only [Cd,Ck,Ac,Be,Aq,Nat.reduceEqDiff,reduceIte,Nat.reduceLT,Nat.reduceLeDiff];simp (disch:=omega) [Aq,A8,Cm,Aa] <;> (repeat' apply And.intro) <;> omega) (by simp (disch:=omega) [Dc,Ee,C9,Bj,Aq,A8,Cm,Aa]) (by simp [De])) ⟨by omega,by decide,rfl⟩ ?_
 rintro ⟨j,n⟩ ⟨h1,h2,h3⟩
 simp only at h1 h2 h3
 have hP:j<4→n<4096:=fun h=>Nat.lt_of_lt_of_le h2 (Nat.le_trans (Nat.pow_le_pow_right (by decide) (show j≤3 by omega)) (by decide))
 have hS:j<4→∀ d<16,n * 16+d<16 ^ (j+1):=fun h d hd=>by rw [Nat.pow_succ];omega
 have hC:=Nd s (i+2+j)
 skip
 (refine Ax hm _ _ _ ?_;simp only [Cb,Ah,Bm,Br,Ce,Eh,Cn,Ab,Ci,B3,Bk,B0,Ea,Bd,A1,Da,Bc,D9,Bf,A0,Cw,Ca,A9,Aj,B8,Kb,D0,I7,Bq,C2,Dq,Db,Dn,Au,Bt,Ar,E8,M5,Jhb,Dm,Pr,Lc,L4,Hz,Kl,Hn,Ib,Hf,Ag,Ae,A3,Bs,Cs,Cr,A6,A7,B9,Av,Ap,Al,B7,B5,Af,Am,Ao,Co,Ay,A2,Ad,Ac,Dy,List.map_cons,List.map_nil,List.getD_cons_zero,List.getD_cons_succ,decide_eq_true_eq,Nat.reduceLT,Nat.reduceEqDiff,Int.reduceNeg,true_and,and_true,Cc,↓reduceIte,reduceCtorEq,Int.toNat_natCast,Int.natCast_nonneg,L.p.injEq,PV.int.injEq,Bool.false_eq_true,Bool.true_and,Bool.and_true,Bool.or_false,Bool.or_true,Uq,Qs,Hi,wi1 (i:=i) (by omega),wi2 (i:=i) (by omega),wi6 (i:=i) (by omega),wi0 (c:=at_ s (i+2+j)) (by omega),wi1 (i:=i+2+j) (by omega)])
 (repeat' (first | (refine iteI (fun h=>?_) (fun h=>?_))|(refine B1 (by first | omega | (simp (disch:=omega) only [Aa,Ak,Ai] at *;omega)) ?_;intro b hb)|(refine And.intro (by first | omega | (simp (disch:=omega) only [Aa,Ak,Ai] at *;omega)) ?_)|((first | (refine Ba hm (by rfl) (by kernel_rfl) ?_));simp only [Dh])|(exact True.intro)|(exfalso;omega)))
 all_goals first
  | (
   have hd:48≤at_ s (i+2+j)∧at_ s (i+2+j)≤57:=by omega
   have hv:hexv (at_ T j)=some (at_ s (i+2+j) - 48):=by rw [hTa j (by omega)];unfold hexv;rw [if_pos (by omega)]
   have hn:=hP (by omega)
   refine ⟨(j+1,n * 16+(at_ s (i+2+j) - 48)),⟨by simp only;omega,hS (by omega) _ (by omega),?_⟩,by simp only;omega,(St.le_slots (by simp only [Cd,Ck,Ac,Be,Aq,Nat.reduceEqDiff,reduceIte,Nat.reduceLT,Nat.reduceLeDiff];simp (disch:=omega) [Aq,A8,Cm,Aa] <;> (repeat' apply And.intro) <;> omega) (by simp (disch:=omega) [Dc,Ee,C9,Bj,Aq,A8,Cm,Aa]) (by simp [De]))⟩
   simp only;rw [← h3,Pz (i:=j) (n:=n) (by omega),hv])
  | (
   have hd:97≤at_ s (i+2+j)∧at_ s (i+2+j)≤102:=by omega
   have hv:hexv (at_ T j)=some (at_ s (i+2+j) - 87):=by rw [hTa j (by omega)];unfold hexv;rw [if_neg (by omega),if_pos (by omega)]
   have hn:=hP (by omega)
   refine ⟨(j+1,n * 16+(at_ s (i+2+j) - 87)),⟨by simp only;omega,hS (by omega) _ (by omega),?_⟩,by simp only;omega,(St.le_slots (by simp only [Cd,Ck,Ac,Be,Aq,Nat.reduceEqDiff,reduceIte,Nat.reduceLT,Nat.reduceLeDiff];simp (disch:=omega) [Aq,A8,Cm,Aa] <;> (repeat' apply And.intro) <;> omega) (by simp (disch:=omega) [Dc,Ee,C9,Bj,Aq,A8,Cm,Aa]) (by simp [De]))⟩
   simp only;rw [← h3,Pz (i:=j) (n:=n) (by omega),hv])
  | (
   have hd:65≤at_ s (i+2+j)∧at_ s (i+2+j)≤70:=by omega
   have hv:hexv (at_ T j)=some (at_ s (i+2+j) - 55):=by rw [hTa j (by omega)];unfold hexv;rw [if_neg (by omega),if_neg (by omega),if_pos (by omega)]
   have hn:=hP (by omega)
   refine ⟨(j+1,n * 16+(at_ s (i+2+j) - 55)),⟨by simp only;omega,hS (by omega) _ (by omega),?_⟩,by simp only;omega,(St.le_slots (by simp only [Cd,Ck,Ac,Be,Aq,Nat.reduceEqDiff,reduceIte,Nat.reduceLT,Nat.reduceLeDiff];simp (disch:=omega) [Aq,A8,Cm,Aa] <;> (repeat' apply And.intro) <;> omega) (by simp (disch:=omega) [Dc,Ee,C9,Bj,Aq,A8,Cm,Aa]) (by simp [De]))⟩
   simp only;rw [← h3,Pz (i:=j) (n:=n) (by omega),hv])
  | (
   have e:hexN T 0=none:=by
    rw [← h3,Pz (i:=j) (n:=n) (by omega),hTa j (by omega),show hexv (at_ s (i+2+j))=none by unfold hexv;rw [if_neg (by omega),if_neg (by omega),if_neg (by omega)]]
   rw [e])
  | (
   have e:hexN T 0=some n:=by
    rw [← h3,List.drop_eq_nil_of_le (by omega)];rfl
   rw [e])
def Lr (c:Nat):Option Nat :=
 if c=34 then some 34 else if c=92 then some 92 else if c=47 then some 47 else if c=98 then some 8 else if c=102 then some 12 else if c=110 then some 10 else if c=114 then some 13 else if c=116 then some 9 else none
def escR (s:List UInt8):Int×Nat :=
 if s.length<2 then (0,0) else match Lr (at_ s 1) with
  | some r=>(r,2)
  | none=>if u4 s<0∨(56320≤u4 s∧u4 s<57344) then (0,0) else if u4 s<55296∨57344≤u4 s then (u4 s,6)
   else if u4 (s.drop 6)<56320∨57344≤u4 (s.drop 6) then (0,0) else (65536+(u4 s - 55296) * 1024+(u4 (s.drop 6) - 56320),12)
def escS (s:List UInt8):List UInt8×Nat:=if (escR s).2=0 then ([],0) else (utf (escR s).1,(escR s).2)
theorem Jgq (s:List UInt8):-1≤u4 s∧u4 s<65536:=by
 unfold u4
 split
 ·split
  ·rename_i n h
   have:=Jji _ _ _ h
   have hl:((s.drop 2).take 4).length=4:=by simp;omega
   rw [hl] at this
   omega
  ·omega
 ·omega
theorem d_utf (n:Int) (h:Kq n):Det cx 275 [.p (.int .i64 n)] [] (.p (.str (utf n))) []:=by
 have h':=h
 unfold Kq at h'
 (refine B2.of_code (X:=cx) false [] (by simp) Tryz.func275 (by kernel_rfl) rfl (by simp only [List.length_cons,List.length_nil,Tryz.ntmps275];decide) (by simp) ?_;refine Ax hm _ _ _ ?_;simp only [Tryz.ntmps275,Tryz.results275,Cb,Ah,Bm,Br,Cn,Ab,B3,Bd,A1,Bc,Ct,Bf,A0,Ca,F6,A9,Aj,B8,Kb,Df,Bo,Bq,Au,Bt,Ar,E8,Jon,Jk3,Dm,Xk,L4,Hz,S8,Kl,Hn,Ms,Nf,Ly,Q5,Cu,Ma,Ag,Ae,A3,E6,Fu,En,F4,Ht,Ji,Il,Dg,Jg,Gp,Gr,Gs,Gu,Hu,Ho,Bs,Cs,Cr,A6,A7,B9,Av,Ap,Al,B7,B5,Af,Am,Ao,Co,Ay,Aw,B4,Dx,Dk,Ez,I9,G9,C7,El,Cz,F1,A2,Ad,Ac,Bn,C6,Bg,Bb,argW,List.map_cons,List.map_nil,List.length_cons,List.length_nil,List.take_succ_cons,List.take_nil,List.drop_zero,decide_eq_true_eq,ne_eq,not_false_eq_true,Nat.reduceLT,Nat.reduceLeDiff,Nat.reduceEqDiff,Nat.reduceAdd,Nat.reduceMul,Int.reduceEq,true_and,and_true,Cc,↓reduceIte,reduceCtorEq,Nat.zero_add,L.p.injEq,PV.str.injEq,Bool.true_and,Bool.and_true,Bool.or_false,Bool.or_true,beq_self_eq_true,Uq,Qs,Jac,Hi,Qu,Pq])
 (repeat' (first | (refine iteI (fun h=>?_) (fun h=>?_))|(refine B1 (by first | omega | (simp (disch:=omega) only [Aa,Ak,Ai] at *;omega)) ?_;intro b hb)|(refine And.intro (by first | omega | (simp (disch:=omega) only [Aa,Ak,Ai] at *;omega)) ?_)|((first | (refine Ba hm (by rfl) (by kernel_rfl) ?_));simp only [Dh])|(exact True.intro)|(exfalso;omega)))
 ·rw [utf,Vv (by omega)];rfl
 ·rw [utf,Xa (by omega)]
  simp (disch:=omega) only [Int.tdiv_eq_ediv_of_nonneg,Int.tmod_eq_emod_of_nonneg,Aa,List.map_cons,List.map_nil]
 ·rw [utf,Xm (by omega)]
  simp (disch:=omega) only [Int.tdiv_eq_ediv_of_nonneg,Int.tmod_eq_emod_of_nonneg,Aa,List.map_cons,List.map_nil]
 ·rw [utf,Xr (by omega)]
  simp (disch:=omega) only [Int.tdiv_eq_ediv_of_nonneg,Int.tmod_eq_emod_of_nonneg,Aa,List.map_cons,List.map_nil]
end Go.LX
