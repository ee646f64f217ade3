/- Paths: steps; which are right. -/
import Derived.Test.YtmejkfclabmijaaGreatDoorPathBackLxP
set_option linter.unusedSimpArgs false
set_option linter.unusedVariables false
set_option linter.unusedSectionVars false
set_option linter.unnecessarySimpa false
set_option maxRecDepth 100000
set_option maxHeartbeats 2000000
namespace Go.LX
open Go Go.RowKit Go.Proofs
attribute [local irreducible] Bz SWP Gm
structure Step where
 part:Bool
 name:List UInt8
 n:Int
def Step.cells (x:Step):List PV:=[.bool x.part,.str x.name,.int .i64 x.n]
def Gp (p:List Step):List (List PV):=p.map Step.cells
@[simp] theorem Dr (p:List Step):(Gp p).length=p.length:=by simp [Gp]
theorem M8 {p:List Step} {i:Nat} {x:Step} (h:p[i]? = some x):(Gp p)[i]? = some [.bool x.part,.str x.name,.int .i64 x.n]:=by
 simp [Gp,h,Step.cells]
def Fs (x:Step):Prop:=if x.part=true then x.name=[]∧0≤x.n∧x.n≤1000000 else x.n=0∧valid x.name=true
instance (x:Step):Decidable (Fs x):=by unfold Fs;exact inferInstance
def Vd (p:List Step):Prop:=p.length≤20∧∀ x∈p,Fs x
def fewP (p:List Step):Prop:=p.length≤31∧∀ x∈p,x.name.length≤100
instance (p:List Step):Decidable (Vd p):=inferInstanceAs (Decidable (_∧_))
instance (p:List Step):Decidable (fewP p):=inferInstanceAs (Decidable (_∧_))
theorem d_few (p:List Step) (hp:p.length≤140737488355328) (hn:∀ x∈p,x.name.length≤140737488355328):Det cx 14 [.p (.sl (Gp p))] [] (.p (.bool (decide (fewP p)))) []:=by
 (refine Bz.of_code (X:=cx) false [] (by simp) Tryz.func14 (by kernel_rfl) rfl (by simp only [List.length_cons,List.length_nil,Tryz.ntmps14];decide) (by simp) ?_;refine Ax hm _ _ _ ?_;simp only [Tryz.ntmps14,Tryz.results14,Ah,Bn,Ci,H9,Ab,Bd,A0,Bb,Az,C0,Cb,Ai,Ad,argW,List.map_cons,List.map_nil,Ca])
 refine SWP.loop (fun i:Nat=>⟨Fo 21 [(0,.p (.sl (Gp p))),(3,.p (.int .i64 i))],[]⟩) (fun i=>i≤p.length∧i≤31∧∀ x∈p.take i,x.name.length≤100) (fun i=>p.length - i) 0 (St.le_slots (by simp only [Ck,Cm,Ac,Bj,Au,Nat.reduceEqDiff,reduceIte,Nat.reduceLT,Nat.reduceLeDiff];simp (disch:=omega) [Au,Bc,Cq,Aa] <;> (repeat' apply And.intro) <;> omega) (by simp (disch:=omega) [Dj,Eo,Dg,Bh,Au,Bc,Cq,Aa]) (by simp [Dk])) ⟨Nat.zero_le _,Nat.zero_le _,by simp⟩ ?_
 rintro i ⟨h1,h2,h3⟩
 by_cases hi:¬ i<p.length
 ·have hc:((i:Int)<(p.length:Int))=False:=eq_false (by omega)
  skip
  (refine Ax hm _ _ _ ?_;simp only [Ah,Bn,Bs,Fd,Cn,Ab,Co,B4,Bd,A0,Bb,Be,Az,C0,Ba,Ai,B8,Eg,Br,Av,Aq,D1,D9,D0,Ag,Ae,A3,Bt,Cy,Cz,A7,A8,B9,Aw,Ao,Al,B5,B6,Af,Am,Ap,Cl,A1,A2,Ad,Ac,Ea,List.map_cons,List.map_nil,decide_eq_true_eq,Nat.reduceLT,Nat.reduceEqDiff,and_true,Ca,↓reduceIte,reduceCtorEq,L.p.injEq,PV.bool.injEq,Bool.and_true,Bool.or_false,I9,Dr,hc])
  refine (decide_eq_true ?_).symm
  rw [List.take_of_length_le (by omega)] at h3
  exact ⟨by omega,h3⟩
 ·have hi:=Decidable.not_not.1 hi
  obtain ⟨x,hx⟩:∃ x,p[i]? = some x:=⟨_,List.getElem?_eq_getElem hi⟩
  have hg:=M8 hx
  have hc:((i:Int)<(p.length:Int))=True:=eq_true (by omega)
  skip
  (refine Ax hm _ _ _ ?_;simp only [Ch,Ah,Bn,Bs,Ci,Cn,Ab,Cf,Bo,Ei,Bd,A0,Dq,Bb,Ep,Be,Az,C0,Cb,Ba,Ai,B8,Em,D5,C2,Cp,Eg,Bg,Br,C6,D6,D3,D4,Av,B0,Aq,Hb,D1,Js,D9,Fb,D0,Eh,B7,D7,He,Cv,Gi,C5,C4,Ag,Ae,A3,Bt,Cy,Cz,A7,A8,B9,Aw,Ao,Al,B5,B6,Af,Am,Ap,Cl,A1,A2,Ad,Ac,Ea,List.map_cons,List.map_nil,List.getD_cons_zero,List.getD_cons_succ,List.length_cons,List.length_nil,List.drop_succ_cons,List.drop_zero,List.getElem?_cons_zero,decide_eq_true_eq,Nat.reduceLT,Nat.reduceLeDiff,Nat.reduceEqDiff,Nat.reduceAdd,true_and,and_true,Ca,↓reduceIte,reduceCtorEq,Int.toNat_natCast,Int.natCast_nonneg,Nat.zero_add,L.p.injEq,PV.bool.injEq,Bool.false_eq_true,Bool.true_and,Bool.and_true,Bool.or_false,Bool.or_true,Ja,L9,Kw,I9,Kl,J4,Dr,hc,hg,Dr,wi1 (i:=i) (by omega)])
  (repeat' (first | (refine iteI (fun h=>?_) (fun h=>?_))|(refine B2 (by first | omega | (simp (disch:=omega) only [Aa,Ak,Aj] at *;omega)) ?_;intro b hb)|(refine And.intro (by first | omega | (simp (disch:=omega) only [Aa,Ak,Aj] at *;omega)) ?_)|((first | (refine A9 hm (by rfl) (by kernel_rfl) ?_));simp only [Dm])|(exact True.intro)|(exfalso;omega)))
  ·refine (decide_eq_false fun h=>?_).symm
   have:=h.1
   omega
  ·refine (decide_eq_false fun h=>?_).symm
   have:=h.2 x (List.mem_of_getElem? hx)
   omega
  ·refine ⟨i+1,⟨by omega,by omega,fun y hy=>?_⟩,by omega,(St.le_slots (by simp only [Ck,Cm,Ac,Bj,Au,Nat.reduceEqDiff,reduceIte,Nat.reduceLT,Nat.reduceLeDiff];simp (disch:=omega) [Au,Bc,Cq,Aa] <;> (repeat' apply And.intro) <;> omega) (by simp (disch:=omega) [Dj,Eo,Dg,Bh,Au,Bc,Cq,Aa]) (by simp [Dk]))⟩
   rw [List.take_add_one,hx] at hy
   rcases List.mem_append.1 hy with hy | hy
   ·exact h3 y hy
   ·simp at hy;subst hy;omega
theorem Jne (x:Step) (hx:x.name.length≤9223372036854775807):Det cx 51 [.p (.agg [.bool x.part,.str x.name,.int .i64 x.n])] [] (.p (.bool (!decide (Fs x)))) []:=by
 cases hp:x.part
 ·(refine Bz.of_code (X:=cx) false [] (by simp) Tryz.func51 (by kernel_rfl) rfl (by simp only [List.length_cons,List.length_nil,Tryz.ntmps51];decide) (by simp) ?_;refine Ax hm _ _ _ ?_;simp only [Tryz.ntmps51,Tryz.results51,Ch,Ah,Bn,Bs,Cn,Ab,Bd,A0,Dq,Bb,Ep,Cs,Be,Az,Ce,C0,Cb,Ba,Ai,B8,Em,D5,C2,T0,Cc,Bp,Bg,Br,C6,D6,D3,D4,Av,B0,Aq,Ll,Cv,Gd,C5,Da,Ej,P3,T7,Cr,Gj,Ag,Ae,A3,Cd,Bv,Bm,Bx,Bw,A5,B3,Bi,Ay,A4,Bt,Cy,Cz,A7,A8,B9,Aw,Ao,Al,B5,B6,Af,Am,Ap,Cl,A1,Ar,B1,E6,Cj,A2,Ad,Ac,Bl,Bf,A6,argW,List.map_cons,List.map_nil,List.getD_cons_zero,List.getD_cons_succ,List.append_nil,List.flatMap_cons,List.flatMap_nil,List.getElem?_cons_zero,List.getElem?_cons_succ,bne_iff_ne,ne_eq,Nat.reduceLT,Nat.reduceEqDiff,true_and,and_true,Ca,Bu,↓reduceIte,Nat.zero_add,L.p.injEq,PV.bool.injEq,Bool.false_eq_true,Bool.true_and,Bool.and_true,Bool.or_true,Om,Mj,O9,Nr,L9,Kw,Jq,J4,Na])
  (repeat' (first | (refine iteI (fun h=>?_) (fun h=>?_))|(refine B2 (by first | omega | (simp (disch:=omega) only [Aa,Ak,Aj] at *;omega)) ?_;intro b hb)|(refine And.intro (by first | omega | (simp (disch:=omega) only [Aa,Ak,Aj] at *;omega)) ?_)|((first | (refine A9 hm (by rfl) (by kernel_rfl) ?_)|(refine Det.use (Pg _ hx) ?_)|(refine Det.useQ (Pg _ hx) ?_));simp only [Cn,Ab,Bd,A0,Dq,Bb,Cs,Be,Az,C0,Ai,Oo,Em,C6,D6,D3,D4,Jp,Ag,Ae,A3,Bq,B3,Bt,Cy,Cz,A7,A8,B9,Aw,Ao,Al,B5,B6,Af,Am,Ap,Cl,A1,Ar,A2,Ad,Ac,List.getD_cons_zero,List.getD_cons_succ,Bool.not_eq_eq_eq_not,Nat.reduceLT,Nat.reduceEqDiff,and_true,↓reduceIte,L.p.injEq,PV.bool.injEq,Bool.false_eq_true,Bool.and_true])|(exact True.intro)|(exfalso;omega)))
  ·rw [decide_eq_false (fun h=>by unfold Fs at h;rw [hp,if_neg (by simp)] at h;exact absurd h.1 (by assumption))];rfl
  ·have hn0:x.n=0:=Decidable.not_not.1 (by assumption)
   cases hv:valid x.name
   ·rw [decide_eq_false (fun h=>by unfold Fs at h;rw [hp,if_neg (by simp),hv] at h;cases h.2)];rfl
   ·rw [decide_eq_true (by unfold Fs;rw [hp,if_neg (by simp)];exact ⟨hn0,hv⟩)];rfl
 ·(refine Bz.of_code (X:=cx) false [] (by simp) Tryz.func51 (by kernel_rfl) rfl (by simp only [List.length_cons,List.length_nil,Tryz.ntmps51];decide) (by simp) ?_;refine Ax hm _ _ _ ?_;simp only [Tryz.ntmps51,Tryz.results51,Ah,Bn,Bs,Cn,Ab,Cf,Bd,A0,Dq,Bb,Ep,Cs,Be,Az,C0,Cb,Hc,Ba,Ai,B8,Em,D5,C2,T0,Bp,Bg,Br,C6,D6,D3,D4,Av,F4,B0,Aq,D1,Js,Qz,Cv,Gd,C5,Da,Ej,P3,T7,Cr,Gj,Ag,Ae,A3,Bt,Cy,Cz,A7,A8,B9,Aw,Ao,Al,B5,B6,Af,Am,Ap,Cl,A1,Ar,B1,E6,A2,Ad,Ac,Bl,Bf,A6,argW,List.map_cons,List.map_nil,List.getD_cons_zero,List.getD_cons_succ,List.getElem?_cons_zero,List.getElem?_cons_succ,decide_eq_true_eq,beq_eq_false_iff_ne,Bool.not_eq_eq_eq_not,ne_eq,Nat.reduceLT,Nat.reduceEqDiff,true_and,and_true,Ca,↓reduceIte,Nat.zero_add,Aj,Bool.not_true,L.p.injEq,PV.bool.injEq,Bool.false_eq_true,Bool.true_and,Bool.and_true,Bool.or_true,Om,Mj,O9,Nr,L9,Kw,Jq,J4,Na])
  (repeat' (first | (refine iteI (fun h=>?_) (fun h=>?_))|(refine B2 (by first | omega | (simp (disch:=omega) only [Aa,Ak,Aj] at *;omega)) ?_;intro b hb)|(refine And.intro (by first | omega | (simp (disch:=omega) only [Aa,Ak,Aj] at *;omega)) ?_)|((first | (refine A9 hm (by rfl) (by kernel_rfl) ?_)|(refine Det.use (Pg _ hx) ?_)|(refine Det.useQ (Pg _ hx) ?_));simp only [Dm])|(exact True.intro)|(exfalso;omega)))
  ·rw [decide_eq_false (fun h=>by unfold Fs at h;rw [hp,if_pos rfl] at h;have e:x.name.length=0:=(by rw [h.1];rfl);omega)];rfl
  ·rw [decide_eq_false (fun h=>by unfold Fs at h;rw [hp,if_pos rfl] at h;omega)];rfl
  ·have hn0:x.name=[]:=List.eq_nil_of_length_eq_zero (by omega)
   by_cases hb:1000000<x.n
   ·rw [decide_eq_true hb,decide_eq_false (fun h=>by unfold Fs at h;rw [hp,if_pos rfl] at h;omega)];rfl
   ·rw [decide_eq_false hb,decide_eq_true (by unfold Fs;rw [hp,if_pos rfl];exact ⟨hn0,by omega,by omega⟩)];rfl
def Uz (p:List Step):Nat→Nat→Int
 | 0,_=>-1
 | f+1,i=>match p[i]? with
  | some x=>if Fs x then Uz p f (i+1) else i
  | none=>-1
theorem Yh (p:List Step) (hp:p.length≤1000000) (hx:∀ x∈p,x.name.length≤9223372036854775807):Det cx 116 [.p (.sl (Gp p)),.fn 51 []] [] (.p (.int .i64 (Uz p (p.length+1) 0))) []:=by
 (refine Bz.of_code (X:=cx) false [] (by simp) Tryz.func116 (by kernel_rfl) rfl (by simp only [List.length_cons,List.length_nil,Tryz.ntmps116];decide) (by simp) ?_;refine Ax hm _ _ _ ?_;simp only [Tryz.ntmps116,Tryz.results116,Ah,Bn,Ci,H9,Ab,Bd,A0,Bb,Be,Az,Cb,Ba,Ai,Eg,D9,D0,Ad,Ac,argW,List.map_cons,List.map_nil,Nat.reduceLT,Int.reduceNeg,Ca,↓reduceIte,reduceCtorEq,Nat.zero_add,I9])
 refine SWP.loop (fun x:Nat×Nat=>⟨Fo 19 [(0,.p (.sl (Gp p))),(1,.fn 51 []),(7,.p (.int .i64 p.length)),(8,.p (.int .i64 x.1))],[]⟩) (fun x=>x.1≤p.length∧p.length+1≤x.1+x.2∧Uz p x.2 x.1=Uz p (p.length+1) 0) (fun x=>p.length - x.1) (0,p.length+1) (by simp only [Dr];exact (St.le_slots (by simp only [Ck,Cm,Ac,Bj,Au,Nat.reduceEqDiff,reduceIte,Nat.reduceLT,Nat.reduceLeDiff];simp (disch:=omega) [Au,Bc,Cq,Aa] <;> (repeat' apply And.intro) <;> omega) (by simp (disch:=omega) [Dj,Eo,Dg,Bh,Au,Bc,Cq,Aa]) (by simp [Dk]))) ⟨Nat.zero_le _,by simp,rfl⟩ ?_
 rintro ⟨i,f⟩ ⟨h1,h2,h3⟩
 simp only at h1 h2 h3
 obtain ⟨g,rfl⟩:∃ g,f=g+1:=⟨f - 1,by omega⟩
 rw [Uz] at h3
 by_cases hi:¬ i<p.length
 ·have hc:((i:Int)<(p.length:Int))=False:=eq_false (by omega)
  rw [List.getElem?_eq_none (by omega)] at h3
  skip
  (refine Ax hm _ _ _ ?_;simp only [Ah,Bn,Bs,Fd,Cn,Ab,Co,B4,Bd,A0,Bb,Be,Az,Cb,Ai,B8,Br,Av,Aq,D1,Ag,Ae,A3,Bt,Cy,Cz,A7,A8,B9,Aw,Ao,Al,B5,B6,Af,Am,Ap,Cl,A1,A2,Ad,Ac,Ea,List.map_cons,List.map_nil,decide_eq_true_eq,Nat.reduceLT,Nat.reduceEqDiff,Int.reduceNeg,true_and,and_true,Ca,↓reduceIte,reduceCtorEq,L.p.injEq,PV.int.injEq,Bool.true_and,Bool.and_true,Bool.or_false,hc])
  rw [← h3]
 ·have hi:=Decidable.not_not.1 hi
  obtain ⟨x,hxi⟩:∃ x,p[i]? = some x:=⟨_,List.getElem?_eq_getElem hi⟩
  have hg:=M8 hxi
  have hc:((i:Int)<(p.length:Int))=True:=eq_true (by omega)
  rw [hxi] at h3
  simp only at h3
  skip
  (refine Ax hm _ _ _ ?_;simp only [Ch,Ah,Bn,Bs,Ci,Ab,Bd,A0,Bb,Be,Ba,Ai,B8,D5,Cp,Cc,Bg,Br,Av,Aq,D1,Eh,B7,D7,C5,Ic,Ag,Ae,A3,Cd,Bv,Bm,Bx,Bw,A5,B3,Bi,Ay,A4,Cj,Ad,Ac,List.map_cons,List.map_nil,List.length_cons,List.length_nil,List.append_nil,List.flatMap_cons,List.flatMap_nil,List.take_succ_cons,List.take_nil,decide_eq_true_eq,Nat.reduceLT,Nat.reduceLeDiff,Nat.reduceEqDiff,Nat.reduceAdd,Int.reduceNeg,true_and,Ca,Bu,↓reduceIte,reduceCtorEq,Int.toNat_natCast,Int.natCast_nonneg,Nat.zero_add,Bool.true_and,Bool.or_false,Kl,Lm,Kk,hc,hg,wi1 (i:=i) (by omega)])
  (repeat' (first | (refine iteI (fun h=>?_) (fun h=>?_))|(refine B2 (by first | omega | (simp (disch:=omega) only [Aa,Ak,Aj] at *;omega)) ?_;intro b hb)|(refine And.intro (by first | omega | (simp (disch:=omega) only [Aa,Ak,Aj] at *;omega)) ?_)|((first | (refine A9 hm (by rfl) (by kernel_rfl) ?_)|(refine Det.use (Jne x (hx x (List.mem_of_getElem? hxi))) ?_)|(refine Det.useQ (Jne x (hx x (List.mem_of_getElem? hxi))) ?_));simp only [Ch,Ah,Bn,Bs,Cn,Ab,Cf,Bo,Ei,Bd,A0,Bb,Cs,Be,Az,Cb,Ba,Ai,B8,Br,Av,B0,Aq,Hb,Ag,Ae,A3,Bq,B3,Bt,Cy,Cz,A7,A8,B9,Aw,Ao,Al,B5,B6,Af,Am,Ap,Cl,A1,A2,Ad,Ac,Ea,List.map_cons,List.map_nil,decide_eq_false_iff_not,Bool.not_eq_eq_eq_not,Nat.reduceLT,Nat.reduceEqDiff,Int.reduceNeg,true_and,and_true,Ca,↓reduceIte,reduceCtorEq,Bool.not_true,L.p.injEq,PV.int.injEq,Bool.true_and,Bool.and_true,Bool.or_true,wi1 (i:=i) (by omega)])|(exact True.intro)|(exfalso;omega)))
  ·rw [if_neg (by assumption)] at h3
   rw [h3]
  ·rw [if_pos (by first | assumption | exact Decidable.not_not.1 (by assumption))] at h3
   exact ⟨(i+1,g),⟨by simp only;omega,by simp only;omega,h3⟩,by simp only;omega,(St.le_slots (by simp only [Ck,Cm,Ac,Bj,Au,Nat.reduceEqDiff,reduceIte,Nat.reduceLT,Nat.reduceLeDiff];simp (disch:=omega) [Au,Bc,Cq,Aa] <;> (repeat' apply And.intro) <;> omega) (by simp (disch:=omega) [Dj,Eo,Dg,Bh,Au,Bc,Cq,Aa]) (by simp [Dk]))⟩
theorem Jee {p:List Step}:∀ (f i:Nat),p.length+1≤i+f→i≤p.length→(Uz p f i<0 ↔ ∀ x∈p.drop i,Fs x)
 | 0,i,h,hi=>by omega
 | f+1,i,h,hi=>by
  rw [Uz]
  by_cases hl:i<p.length
  ·rw [List.getElem?_eq_getElem hl,List.drop_eq_getElem_cons hl]
   simp only
   by_cases hs:Fs p[i]
   ·rw [if_pos hs,Jee f (i+1) (by omega) (by omega)]
    exact ⟨fun h x hx=>(List.mem_cons.1 hx).elim (fun e=>e ▸ hs) (h x),fun h x hx=>h x (List.mem_cons_of_mem _ hx)⟩
   ·rw [if_neg hs]
    constructor
    ·intro h;omega
    ·intro h;exact absurd (h _ List.mem_cons_self) hs
  ·rw [List.getElem?_eq_none (by omega),List.drop_eq_nil_of_le (by omega)]
   simp
theorem Ny (p:List Step) (hp:p.length≤1000000) (hx:∀ x∈p,x.name.length≤9223372036854775807):Det cx 53 [.p (.sl (Gp p)),.fn 51 []] [] (.p (.bool (!decide (∀ x∈p,Fs x)))) []:=by
 have hw:=Jee (p:=p) (p.length+1) 0 (by omega) (Nat.zero_le _)
 rw [List.drop_zero] at hw
 (refine Bz.of_code (X:=cx) false [] (by simp) Tryz.func53 (by kernel_rfl) rfl (by simp only [List.length_cons,List.length_nil,Tryz.ntmps53];decide) (by simp) ?_;refine Ax hm _ _ _ ?_;simp only [Tryz.ntmps53,Tryz.results53,Ah,Bn,Ab,Bd,A0,Bb,Be,Az,Ce,C0,Ba,Ai,Cc,Ag,Ae,A3,Jd8,Cd,Bv,Bm,Bx,Bw,A5,B3,Tk,Xe,Bi,Ay,A4,Cj,Jh0,Ds,Ad,Ac,argW,List.map_cons,List.map_nil,List.append_nil,List.flatMap_cons,List.flatMap_nil,Nat.reduceLT,Nat.reduceEqDiff,Ca,Bu,↓reduceIte,reduceCtorEq,Nat.zero_add])
 (repeat' (first | (refine iteI (fun h=>?_) (fun h=>?_))|(refine B2 (by first | omega | (simp (disch:=omega) only [Aa,Ak,Aj] at *;omega)) ?_;intro b hb)|(refine And.intro (by first | omega | (simp (disch:=omega) only [Aa,Ak,Aj] at *;omega)) ?_)|((first | (refine A9 hm (by rfl) (by kernel_rfl) ?_)|(refine Det.use (Yh p hp hx) ?_)|(refine Det.useQ (Yh p hp hx) ?_));simp only [Cn,Ab,Bd,A0,Bb,Cs,Be,Az,Cb,Ai,B8,Av,B0,Aq,M2,Ag,Ae,A3,Bq,B3,Bt,Cy,Cz,A7,A8,B9,Aw,Ao,Al,B5,B6,Af,Am,Ap,Cl,A1,A2,Ad,Ac,Nat.reduceLT,and_true,Ca,↓reduceIte,L.p.injEq,PV.bool.injEq,Bool.and_true,Bool.or_true])|(exact True.intro)|(exfalso;omega)))
 by_cases h:∀ x∈p,Fs x
 ·have:=hw.2 h
  rw [decide_eq_true h,decide_eq_false (by omega)];rfl
 ·have:¬ Uz p (p.length+1) 0<0:=fun hc=>h (hw.1 hc)
  rw [decide_eq_false h,decide_eq_true (by omega)];rfl
theorem d_Right (p:List Step) (hx:∀ x∈p,x.name.length≤9223372036854775807):Det cx 19 [.p (.sl (Gp p))] [] (.p (.bool (decide (Vd p)))) []:=by
 skip
 (refine Bz.of_code (X:=cx) false [] (by simp) Tryz.func19 (by kernel_rfl) rfl (by simp only [List.length_cons,List.length_nil,Tryz.ntmps19];decide) (by simp) ?_;refine Ax hm _ _ _ ?_;simp only [Tryz.ntmps19,Tryz.results19,Ah,Bn,Cn,Ab,Bd,A0,Dq,Bb,Ep,Be,Az,Ce,C0,Cb,Ba,Ai,B8,Em,Eg,Cc,C6,D6,Du,D4,Av,B0,Aq,Pi,D9,D0,Ag,Ae,A3,Jd8,Cd,Bv,Bm,Bx,Bw,A5,B3,Tk,Xe,Bi,Ay,A4,Bt,Cy,Cz,A7,A8,B9,Aw,Ao,Al,B5,B6,Af,Am,Ap,Cl,A1,Cj,Jh0,Ds,A2,Ad,Ac,argW,List.map_cons,List.map_nil,List.getD_cons_zero,List.getD_cons_succ,List.append_nil,List.flatMap_cons,List.flatMap_nil,decide_eq_true_eq,Nat.reduceLT,Nat.reduceEqDiff,and_true,Ca,Bu,↓reduceIte,reduceCtorEq,L.p.injEq,PV.bool.injEq,Bool.false_eq_true,Bool.and_true,Bool.or_true,I9,Dr])
 (repeat' (first | (refine iteI (fun h=>?_) (fun h=>?_))|(refine B2 (by first | omega | (simp (disch:=omega) only [Aa,Ak,Aj] at *;omega)) ?_;intro b hb)|(refine And.intro (by first | omega | (simp (disch:=omega) only [Aa,Ak,Aj] at *;omega)) ?_)|((first | (refine A9 hm (by rfl) (by kernel_rfl) ?_)|(refine Det.use (Ny p (by omega) hx) ?_)|(refine Det.useQ (Ny p (by omega) hx) ?_)|(refine Ec.use (Ny p (by omega) hx) ?_)|(refine C7.use (Ny p (by omega) hx) ?_));simp only [Cn,Ab,Bd,A0,Dq,Bb,Cs,Be,Az,C0,Ai,Oo,Em,C6,D6,Du,D4,Jp,Ag,Ae,A3,Bq,B3,Bt,Cy,Cz,A7,A8,B9,Aw,Ao,Al,B5,B6,Af,Am,Ap,Cl,A1,A2,Ad,Ac,List.getD_cons_zero,List.getD_cons_succ,Bool.not_eq_eq_eq_not,Nat.reduceLT,Nat.reduceEqDiff,and_true,↓reduceIte,L.p.injEq,PV.bool.injEq,Bool.and_true])|(exact True.intro)|(exfalso;omega)))
 ·rw [Bool.not_not];exact decide_eq_decide.2 ⟨fun h=>⟨by omega,h⟩,fun h=>h.2⟩
 ·exact (decide_eq_false (fun h=>by have:=h.1;omega)).symm
theorem Jdh (p:List Step) (hp:p.length≤1000000) (hn:∀ x∈p,x.name.length≤1000000):Det cx 20 [.p (.sl (Gp p))] [] (.p (.bool (decide (Vd p)))) []:=by
 (refine Bz.of_code (X:=cx) false [] (by simp) Tryz.func20 (by kernel_rfl) rfl (by simp only [List.length_cons,List.length_nil,Tryz.ntmps20];decide) (by simp) ?_;refine Ax hm _ _ _ ?_;simp only [Tryz.ntmps20,Tryz.results20,Ah,Bn,Ci,H9,Ab,Bd,A0,Bb,Az,C0,Cb,Ai,Ad,argW,List.map_cons,List.map_nil,Ca])
 refine SWP.loop (fun i:Nat=>⟨Fo 67 [(0,.p (.sl (Gp p))),(3,.p (.int .i64 i))],[]⟩) (fun i=>i≤p.length∧∀ x∈p.take i,Fs x) (fun i=>p.length - i) 0 (St.le_slots (by simp only [Ck,Cm,Ac,Bj,Au,Nat.reduceEqDiff,reduceIte,Nat.reduceLT,Nat.reduceLeDiff];simp (disch:=omega) [Au,Bc,Cq,Aa] <;> (repeat' apply And.intro) <;> omega) (by simp (disch:=omega) [Dj,Eo,Dg,Bh,Au,Bc,Cq,Aa]) (by simp [Dk])) ⟨Nat.zero_le _,by simp⟩ ?_
 rintro i ⟨h1,h3⟩
 by_cases hi:¬ i<p.length
 ·have hc:((i:Int)<(p.length:Int))=False:=eq_false (by omega)
  skip
  (refine Ax hm _ _ _ ?_;simp only [Ah,Bn,Bs,Fd,Cn,Ab,Co,B4,Bd,A0,Bb,Be,Az,Cb,Ba,Ai,B8,Eg,Br,Av,B0,Aq,D1,Pi,D9,D0,Ag,Ae,A3,Bt,Cy,Cz,A7,A8,B9,Aw,Ao,Al,B5,B6,Af,Am,Ap,Cl,A1,A2,Ad,Ac,Ea,List.map_cons,List.map_nil,decide_eq_true_eq,Nat.reduceLT,Nat.reduceEqDiff,and_true,Ca,↓reduceIte,reduceCtorEq,L.p.injEq,PV.bool.injEq,Bool.and_true,Bool.or_false,Bool.or_true,I9,Dr,hc])
  rw [List.take_of_length_le (by omega)] at h3
  by_cases hl:p.length≤20
  ·rw [decide_eq_true (show (p.length:Int)≤20 by omega),decide_eq_true ⟨hl,h3⟩]
  ·rw [decide_eq_false (show ¬ (p.length:Int)≤20 by omega),decide_eq_false (fun h=>hl h.1)]
 ·have hi:=Decidable.not_not.1 hi
  obtain ⟨x,hx⟩:∃ x,p[i]? = some x:=⟨_,List.getElem?_eq_getElem hi⟩
  have hg:=M8 hx
  have hm':=List.mem_of_getElem? hx
  have hc:((i:Int)<(p.length:Int))=True:=eq_true (by omega)
  have next:Fs x→∀ y∈p.take (i+1),Fs y:=fun hs y hy=>by
   rw [List.take_add_one,hx] at hy
   rcases List.mem_append.1 hy with hy | hy
   ·exact h3 y hy
   ·simp at hy;subst hy;exact hs
  have bad:¬ Fs x→false=decide (Vd p):=fun hs=>(decide_eq_false fun h=>hs (h.2 x hm')).symm
  cases hpt:x.part
  ·skip
   (refine Ax hm _ _ _ ?_;simp only [Ch,Ah,Bn,Bs,Ci,Cn,Ab,Cf,Ei,Bd,A0,Dq,Bb,Ep,Be,Az,Ce,C0,Cb,Ba,Ai,B8,Oo,Em,D5,C2,Cp,Eg,Cc,Bg,Br,C6,D6,Du,D3,Kg,D4,Av,B0,Aq,Ll,D1,Jp,D9,D0,Eh,B7,D7,He,Cv,Gi,C5,C4,Ag,Ae,A3,Cd,Bv,Bm,Bx,Bw,A5,B3,Bi,Ay,A4,Bt,Cy,Cz,A7,A8,B9,Aw,Ao,Al,B5,B6,Af,Am,Ap,Cl,A1,Cj,A2,Ad,Ac,Ea,List.map_cons,List.map_nil,List.getD_cons_zero,List.getD_cons_succ,List.length_cons,List.length_nil,List.append_nil,List.flatMap_cons,List.flatMap_nil,List.drop_succ_cons,List.drop_zero,List.getElem?_cons_zero,decide_eq_true_eq,bne_iff_ne,ne_eq,Nat.reduceLT,Nat.reduceLeDiff,Nat.reduceEqDiff,Nat.reduceAdd,true_and,and_true,Ca,Bu,↓reduceIte,reduceCtorEq,Int.toNat_natCast,Int.natCast_nonneg,Nat.zero_add,Bool.not_false,L.p.injEq,PV.bool.injEq,Bool.false_eq_true,Bool.true_and,Bool.and_true,Bool.or_false,Bool.or_true,Om,Mj,O9,Nr,L9,Kw,I9,Kl,Jq,J4,Na,Dr,hc,hg,hpt,wi1 (i:=i) (by omega)])
   (repeat' (first | (refine iteI (fun h=>?_) (fun h=>?_))|(refine B2 (by first | omega | (simp (disch:=omega) only [Aa,Ak,Aj] at *;omega)) ?_;intro b hb)|(refine And.intro (by first | omega | (simp (disch:=omega) only [Aa,Ak,Aj] at *;omega)) ?_)|((first | (refine A9 hm (by rfl) (by kernel_rfl) ?_)|(refine Det.use (Qo x.name (hn x hm')) ?_)|(refine Det.useQ (Qo x.name (hn x hm')) ?_));simp only [Ch,Ah,Bn,Bs,Cn,Ab,Cf,Bo,Ei,Bd,A0,Dq,Bb,Cs,Be,Az,C0,Cb,Ba,Ai,B8,Oo,Em,Br,C6,D6,Du,D3,D4,Av,B0,Aq,Hb,Jp,Ag,Ae,A3,Bq,B3,Bt,Cy,Cz,A7,A8,B9,Aw,Ao,Al,B5,B6,Af,Am,Ap,Cl,A1,A2,Ad,Ac,Ea,List.map_cons,List.map_nil,List.getD_cons_zero,List.getD_cons_succ,Bool.not_eq_eq_eq_not,Nat.reduceLT,Nat.reduceEqDiff,and_true,Ca,↓reduceIte,reduceCtorEq,Bool.not_true,L.p.injEq,PV.bool.injEq,Bool.false_eq_true,Bool.and_true,Bool.or_true,wi1 (i:=i) (by omega)])|(exact True.intro)|(exfalso;omega)))
   ·exact bad (fun hs=>by unfold Fs at hs;rw [hpt,if_neg (by simp)] at hs;exact absurd hs.1 (by assumption))
   ·exact bad (fun hs=>by unfold Fs at hs;rw [hpt,if_neg (by simp)] at hs;simp_all)
   ·refine ⟨i+1,⟨by omega,next ?_⟩,by omega,(St.le_slots (by simp only [Ck,Cm,Ac,Bj,Au,Nat.reduceEqDiff,reduceIte,Nat.reduceLT,Nat.reduceLeDiff];simp (disch:=omega) [Au,Bc,Cq,Aa] <;> (repeat' apply And.intro) <;> omega) (by simp (disch:=omega) [Dj,Eo,Dg,Bh,Au,Bc,Cq,Aa]) (by simp [Dk]))⟩
    unfold Fs
    rw [hpt,if_neg (by simp)]
    exact ⟨by omega,by simp_all⟩
  ·skip
   (refine Ax hm _ _ _ ?_;simp only [Ch,Ah,Bn,Bs,Ci,Cn,Ab,Cf,Bo,Ei,Bd,A0,Dq,Bb,Ep,Be,Az,C0,Cb,Hc,Ba,Ai,B8,Oo,Em,D5,C2,Cp,Eg,Bg,Br,C6,D6,Du,D3,Kg,D4,Av,F4,B0,Aq,Hb,D1,Js,Qz,Jp,D9,D0,Eh,B7,D7,He,Cv,Gi,C5,C4,Ag,Ae,A3,Bt,Cy,Cz,A7,A8,B9,Aw,Ao,Al,B5,B6,Af,Am,Ap,Cl,A1,A2,Ad,Ac,Ea,List.map_cons,List.map_nil,List.getD_cons_zero,List.getD_cons_succ,List.length_cons,List.length_nil,List.drop_succ_cons,List.drop_zero,List.getElem?_cons_zero,decide_eq_true_eq,beq_eq_false_iff_ne,Bool.not_eq_eq_eq_not,ne_eq,Nat.reduceLT,Nat.reduceLeDiff,Nat.reduceEqDiff,Nat.reduceAdd,true_and,and_true,Ca,↓reduceIte,reduceCtorEq,Int.toNat_natCast,Int.natCast_nonneg,Nat.zero_add,Aj,Bool.not_true,L.p.injEq,PV.bool.injEq,Bool.false_eq_true,Bool.true_and,Bool.and_true,Bool.or_false,Bool.or_true,Om,Mj,O9,Nr,L9,Kw,I9,Kl,Jq,J4,Na,Dr,hc,hg,hpt,wi1 (i:=i) (by omega),hg,hpt,wi1 (i:=i) (by omega)])
   (repeat' (first | (refine iteI (fun h=>?_) (fun h=>?_))|(refine B2 (by first | omega | (simp (disch:=omega) only [Aa,Ak,Aj] at *;omega)) ?_;intro b hb)|(refine And.intro (by first | omega | (simp (disch:=omega) only [Aa,Ak,Aj] at *;omega)) ?_)|((first | (refine A9 hm (by rfl) (by kernel_rfl) ?_));simp only [Dm])|(exact True.intro)|(exfalso;omega)))
   ·exact bad (fun hs=>by unfold Fs at hs;rw [hpt,if_pos rfl] at hs;have e:x.name.length=0:=(by rw [hs.1];rfl);omega)
   ·exact bad (fun hs=>by unfold Fs at hs;rw [hpt,if_pos rfl] at hs;omega)
   ·exact bad (fun hs=>by unfold Fs at hs;rw [hpt,if_pos rfl] at hs;omega)
   ·refine ⟨i+1,⟨by omega,next ?_⟩,by omega,(St.le_slots (by simp only [Ck,Cm,Ac,Bj,Au,Nat.reduceEqDiff,reduceIte,Nat.reduceLT,Nat.reduceLeDiff];simp (disch:=omega) [Au,Bc,Cq,Aa] <;> (repeat' apply And.intro) <;> omega) (by simp (disch:=omega) [Dj,Eo,Dg,Bh,Au,Bc,Cq,Aa]) (by simp [Dk]))⟩
    unfold Fs
    rw [hpt,if_pos rfl]
    exact ⟨List.eq_nil_of_length_eq_zero (by omega),by omega,by omega⟩
end Go.LX
set_option maxRecDepth 100000
set_option maxHeartbeats 2000000
namespace Go.LX
open Go Go.RowKit Go.Proofs
attribute [local irreducible] Bz SWP Gm
def wrs (s:List UInt8):List UInt8:=s.flatMap fun c=>wr c.toNat
def refQ (s:List UInt8):List UInt8:=34 :: wrs s ++ [34]
theorem wr_le (c:Nat):(wr c).length≤6:=by
 unfold wr
 repeat' split
 all_goals simp
theorem wrs_le (s:List UInt8):(wrs s).length≤6 * s.length:=by
 induction s with
 | nil=>simp [wrs]
 | cons c s ih =>
  have:=wr_le c.toNat
  simp only [wrs,List.flatMap_cons,List.length_append,List.length_cons] at ih ⊢
  omega
@[simp] theorem wrs_nil:wrs []=[]:=rfl
def u4 (s:List UInt8):Int:=if 6≤s.length∧at_ s 0=92∧at_ s 1=117 then (match hexN ((s.drop 2).take 4) 0 with | some n=>(n:Int) | none=>-1) else -1
def R2 (c:Nat):Option Nat :=
 if c=34 then some 34 else if c=92 then some 92 else if c=47 then some 47 else if c=98 then some 8 else if c=102 then some 12 else if c=110 then some 10 else if c=114 then some 13 else if c=116 then some 9 else none
def escR (s:List UInt8):Int×Nat :=
 if s.length<2 then (0,0) else match R2 (at_ s 1) with
  | some r=>(r,2)
  | none=>if u4 s<0∨(56320≤u4 s∧u4 s<57344) then (0,0) else if u4 s<55296∨57344≤u4 s then (u4 s,6)
   else if u4 (s.drop 6)<56320∨57344≤u4 (s.drop 6) then (0,0) else (65536+(u4 s - 55296) * 1024+(u4 (s.drop 6) - 56320),12)
def escS (s:List UInt8):List UInt8×Nat:=if (escR s).2=0 then ([],0) else (utf (escR s).1,(escR s).2)
theorem Jnj (s:List UInt8):-1≤u4 s∧u4 s<65536:=by
 unfold u4
 split
 ·split
  ·rename_i n h
   have:=Jig _ _ _ h
   have hl:((s.drop 2).take 4).length=4:=by simp;omega
   rw [hl] at this
   omega
  ·omega
 ·omega
end Go.LX
set_option maxRecDepth 100000
set_option maxHeartbeats 2000000
namespace Go.LX
open Go Go.RowKit Go.Proofs
attribute [local irreducible] Bz SWP Gm
theorem Jf4 {s:List UInt8} {r:Int} {n:Nat} (h:escR s=(r,n)) (hn:n≠0):escS s=(utf r,n):=by
 unfold escS;rw [h];simp [hn]
end Go.LX
set_option maxRecDepth 100000
set_option maxHeartbeats 2000000
namespace Go.LX
open Go Go.RowKit Go.Proofs
attribute [local irreducible] Bz SWP Gm
def tk (s:List UInt8) (i:Nat):List UInt8×Nat:=if at_ s i=92 then escS (s.drop i) else ((s.drop i).take (rlen s i),rlen s i)
def uqF (s:List UInt8):Nat→Nat→List UInt8→List UInt8×Nat×Nat
 | 0,_,_=>([],s.length,1)
 | f+1,i,out=>if i<s.length then (if at_ s i=34 then (out,i+1,0) else if (tk s i).2=0∨at_ s i<32 then ([],i,1) else uqF s f (i+(tk s i).2) (out ++ (tk s i).1)) else ([],s.length,1)
def uq (s:List UInt8):List UInt8×Nat×Nat:=if s.length=0∨at_ s 0≠34 then ([],0,1) else uqF s (s.length+1) 1 []
theorem Jno (s:List UInt8):(escR s).2≤12∧(s.length<(escR s).2→(escR s).2=0):=by
 have key:∀ s:List UInt8,0≤u4 s→6≤s.length:=fun s h=>by
  unfold u4 at h
  split at h
  ·rename_i h6;exact h6.1
  ·omega
 unfold escR
 split
 ·exact ⟨by decide,fun _=>rfl⟩
 ·split
  ·exact ⟨by simp only;omega,fun h=>by simp only at h;omega⟩
  ·split
   ·exact ⟨by decide,fun _=>rfl⟩
   ·split
    ·exact ⟨by simp only;omega,fun h=>by have:=key s (by omega);simp only at h;omega⟩
    ·split
     ·exact ⟨by decide,fun _=>rfl⟩
     ·exact ⟨by simp only;omega,fun h=>by
       have h1:=key (s.drop 6) (by omega)
       rw [List.length_drop] at h1
       simp only at h;omega⟩
theorem escS_le (s:List UInt8):(escS s).1.length≤4∧(escS s).2≤12∧(escS s).2≤s.length:=by
 have h:=Jno s
 unfold escS
 split
 ·exact ⟨by decide,by decide,Nat.zero_le _⟩
 ·exact ⟨Zl _,h.1,by rename_i hn;simp only;omega⟩
theorem tk_le (s:List UInt8) (i:Nat) (h:i<s.length):(tk s i).1.length≤4∧(tk s i).2≤12∧i+(tk s i).2≤s.length:=by
 unfold tk
 split
 ·have h1:=escS_le (s.drop i)
  rw [List.length_drop] at h1
  exact ⟨h1.1,h1.2.1,by omega⟩
 ·have h1:=Yd s i h
  have h2:=Jd9 s i
  exact ⟨by simp;omega,by simp only;omega,h1⟩
end Go.LX
