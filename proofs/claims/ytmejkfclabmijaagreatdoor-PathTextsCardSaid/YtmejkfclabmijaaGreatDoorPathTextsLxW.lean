/- Paths: texts. -/
import Derived.Test.YtmejkfclabmijaaGreatDoorPathTextsLxV
import Derived.Lib.ItoaLen
set_option linter.unusedSimpArgs false
set_option linter.unusedVariables false
set_option linter.unusedSectionVars false
set_option linter.unnecessarySimpa false
set_option maxRecDepth 100000
set_option maxHeartbeats 2000000
namespace Go.LX
open Go Go.RowKit Go.Proofs
attribute [local irreducible] B2 SWP Hb
theorem Kj (s:List UInt8) (hs:s.length≤1000000000):Det cx 118 [.ptr 1000 0 0,.p (.str s)] [(1000,.var 128 [.p .nptr,.p .snil])] (.tup [.int .i64 s.length,.nifc]) [(900,.row 5 1 (bstr s)),(1000,.var 128 [.ptr 1000 0 0,.own 900 0 s.length])]:=by
 (refine B2.of_code (X:=cx) false [(14,900)] (by simp) Tryz.func118 (by kernel_rfl) rfl (by simp only [List.length_cons,List.length_nil,Tryz.ntmps118];decide) (by simp) ?_;refine Ax hm _ _ _ ?_;simp only [Tryz.ntmps118,Tryz.results118,Ah,Bm,Ab,Bd,A1,Bc,Bf,A0,Ch,Ca,Lf,A9,Aj,Cg,Ag,Ae,H1,Cf,Bv,Bi,Bz,Bx,Fb,D7,Gn,Fr,Fq,Eg,B6,Fi,Gw,Bh,Az,Ff,Fe,Hj,Fd,Eu,Fc,Ie,Ig,Fa,Ew,H2,Cl,I5,Ad,Ac,argW,List.map_cons,List.map_nil,List.length_cons,List.length_nil,List.append_nil,List.flatMap_cons,List.flatMap_nil,List.contains_cons,List.contains_nil,Nat.reduceLT,Nat.reduceEqDiff,Nat.reduceAdd,Cc,Bw,↓reduceIte,reduceCtorEq,Nat.zero_add,Bool.false_eq_true,Bool.or_false,beq_self_eq_true])
 (repeat' (first | (refine iteI (fun h=>?_) (fun h=>?_))|(refine B1 (by first | omega | (simp (disch:=omega) only [Aa,Ak,Ai] at *;omega)) ?_;intro b hb)|(refine And.intro (by first | omega | (simp (disch:=omega) only [Aa,Ak,Ai] at *;omega)) ?_)|((first | (refine Ba hm (by rfl) (by kernel_rfl) ?_)|(refine Det.use (K3) ?_)|(refine Det.useQ (K3) ?_));simp only [Ah,Bm,Cn,Ab,Bd,A1,Bc,C1,Ct,Bf,A0,Lf,A9,Aj,Wr,Ed,Fk,C8,Dw,F8,Bo,Bl,Ds,Dl,C0,G3,C5,Dv,E0,Lu,Cu,M9,Iz,Fj,Ii,Ef,Ag,Ae,A3,Ik,Kt,Gk,Dz,Es,Hk,Hp,Fm,Fh,Fs,Fx,Fv,Hl,Jd,D6,Bu,D7,Iu,Ip,Fn,Eg,Di,B6,Fi,D2,Et,Gw,Ey,Il,Hc,F5,Jam,T6,Je7,Rf,Bs,Cs,Cr,A6,A7,B9,Av,Ap,Em,B7,B5,Af,C3,Gj,Fl,D8,Dr,Du,Am,Ao,Cy,Aw,B4,C4,Cp,Hy,Ez,Ks,H8,A2,Ad,Ac,Bn,Cq,Bg,Bb,List.map_cons,List.map_nil,List.length_cons,List.length_nil,List.cons_append,List.nil_append,List.append_nil,List.length_map,List.take_succ_cons,List.take_zero,List.drop_succ_cons,List.drop_nil,List.getElem?_cons_zero,List.getElem?_cons_succ,ne_eq,not_false_eq_true,Nat.reduceLT,Nat.reduceLeDiff,Nat.reduceEqDiff,Nat.reduceAdd,true_and,and_true,Cc,↓reduceIte,reduceCtorEq,Nat.zero_add,List.cons.injEq,Bool.true_and,Bool.and_true,Qs,Jac,Jg4,Jit,Hi,Ts,Tw,Pq,Pi])|(exact True.intro)|(exfalso;omega)))
 exact ⟨Jln s,by omega,by omega,rfl⟩
def Hh (x:Step):List UInt8:=if x.part=true then 91 :: (Lib.itoa x.n ++ [93]) else if isWd x.name then 46 :: x.name else 46 :: refQ x.name
def Hd (p:List Step):List UInt8:=p.flatMap Hh
def Tk (p:List Step):List UInt8:=match p with
 | []=>[46]
 | x :: _=>if x.part=true then 46 :: Hd p else Hd p
theorem Wh (x:Step):1≤(Hh x).length:=by
 unfold Hh
 split
 ·simp
 ·split <;> simp
theorem Jir (s:List UInt8):(refQ s).length≤6 * s.length+2:=by
 have:=Jna s
 unfold refQ;simp;omega
theorem Ji5 {n:Int} (h0:0≤n) (h1:n≤1000000):(Lib.itoa n).length≤21:=Lib.itoa_length_le n (by omega) (by omega)
theorem Jc3 {x:Step} (h:Fw x) (hn:x.name.length≤1000):(Hh x).length≤7000:=by
 have h1:=Jir x.name
 unfold Fw at h
 unfold Hh
 split
 ·rename_i hp
  rw [if_pos hp] at h
  have:=Ji5 h.2.1 h.2.2
  simp;omega
 ·split <;> simp <;> omega
theorem Jet {p:List Step} (h:∀ x∈p,Fw x) (hn:∀ x∈p,x.name.length≤1000):(Hd p).length≤7000 * p.length:=by
 induction p with
 | nil=>simp [Hd]
 | cons x p ih =>
  have h1:=ih (fun y hy=>h y (List.mem_cons_of_mem _ hy)) (fun y hy=>hn y (List.mem_cons_of_mem _ hy))
  have h2:=Jc3 (h x List.mem_cons_self) (hn x List.mem_cons_self)
  unfold Hd at *
  rw [List.flatMap_cons,List.length_append,List.length_cons]
  omega
theorem Jg9 (p q:List Step):Hd (p ++ q)=Hd p ++ Hd q:=by simp [Hd]
theorem Jab (x:Step):Hd [x]=Hh x:=by simp [Hd]
def tlSt (p:List Step) (i:Nat):List UInt8→St
 | []=>⟨Fp 36 [(0,.p (.sl (Gm p))),(3,.ptr 3 0 0),(6,.p (.sl (Gm p))),(7,.p (.int .i64 p.length)),(8,.p (.int .i64 i))],[(3,.var 128 [.p .nptr,.p .snil])]⟩
 | c :: t=>⟨Fp 36 [(0,.p (.sl (Gm p))),(3,.ptr 3 0 0),(6,.p (.sl (Gm p))),(7,.p (.int .i64 p.length)),(8,.p (.int .i64 i))],[(25,.row 5 1 (bstr (c :: t))),(3,.var 128 [.ptr 3 0 0,.own 25 0 (c :: t).length])]⟩
theorem P5 {p:List Step} {i:Nat} {out:List UInt8} (h:out≠[]):tlSt p i out=⟨Fp 36 [(0,.p (.sl (Gm p))),(3,.ptr 3 0 0),(6,.p (.sl (Gm p))),(7,.p (.int .i64 p.length)),(8,.p (.int .i64 i))],[(25,.row 5 1 (bstr out)),(3,.var 128 [.ptr 3 0 0,.own 25 0 out.length])]⟩:=by
 cases out with
 | nil=>exact absurd rfl h
 | cons c t=>rfl
theorem Vx {p:List Step} {i:Nat}:tlSt p i []=⟨Fp 36 [(0,.p (.sl (Gm p))),(3,.ptr 3 0 0),(6,.p (.sl (Gm p))),(7,.p (.int .i64 p.length)),(8,.p (.int .i64 i))],[(3,.var 128 [.p .nptr,.p .snil])]⟩:=rfl
theorem Zx (p:List Step) (hp:p.length≤100) (hok:∀ x∈p,Fw x) (hn:∀ x∈p,x.name.length≤1000):Det cx 55 [.p (.sl (Gm p))] [] (.p (.str (Hd p))) []:=by
 skip
 (refine B2.of_code (X:=cx) false [] (by simp) Tryz.func55 (by kernel_rfl) rfl (by simp only [List.length_cons,List.length_nil,Tryz.ntmps55];decide) (by simp) ?_;refine Ax hm _ _ _ ?_;simp only [Tryz.ntmps55,Tryz.results55,Ah,Bm,Ce,He,Ab,Bd,A1,Bc,Ct,Bf,A0,Ca,F6,A9,Aj,Dw,Hv,Bo,Ds,D4,Gy,Hw,Cu,B4,Ez,Ad,Ac,Bn,Bg,Bb,argW,List.map_cons,List.map_nil,Nat.reduceLT,true_and,Cc,↓reduceIte,reduceCtorEq,Bool.true_and,Ir,Jhm,Dt])
 (repeat' (first | (refine iteI (fun h=>?_) (fun h=>?_))|(refine B1 (by first | omega | (simp (disch:=omega) only [Aa,Ak,Ai] at *;omega)) ?_;intro b hb)|(refine And.intro (by first | omega | (simp (disch:=omega) only [Aa,Ak,Ai] at *;omega)) ?_)|((first | (refine Ba hm (by rfl) (by kernel_rfl) ?_));simp only [Dh])|(exact True.intro)|(exfalso;omega)))
 refine SWP.loop (fun i:Nat=>tlSt p i (Hd (p.take i))) (fun i=>i≤p.length) (fun i=>p.length - i) 0 (by show St.Le _ (tlSt p 0 []);rw [Vx];exact (St.le_slots (by simp only [Cd,Ck,Ac,Be,Aq,Nat.reduceEqDiff,reduceIte,Nat.reduceLT,Nat.reduceLeDiff];simp (disch:=omega) [Aq,A8,Cm,Aa] <;> (repeat' apply And.intro) <;> omega) (by simp (disch:=omega) [Dc,Ee,C9,Bj,Aq,A8,Cm,Aa]) (by simp [De]))) (Nat.zero_le _) ?_
 rintro i hi
 have hT:=Jet (p:=p.take i) (fun x hx=>hok x (List.mem_of_mem_take hx)) (fun x hx=>hn x (List.mem_of_mem_take hx))
 rw [List.length_take] at hT
 by_cases hlt:¬ i<p.length
 ·have hc:((i:Int)<(p.length:Int))=False:=eq_false (by omega)
  have htl:p.take i=p:=List.take_of_length_le (by omega)
  rw [htl] at hT ⊢
  by_cases hne:Hd p=[]
  ·rw [hne,Vx]
   skip
   (refine Ax hm _ _ _ ?_;simp only [Ah,Bm,Br,Eh,Ab,Ci,B0,Bd,A1,Bc,Bf,Ch,B8,Cg,Bq,Au,Ar,Dm,Ag,Ae,H1,Cf,Bv,Bi,Bz,Bx,Fb,D7,Gn,Fr,Fq,Eg,B6,Fi,Gw,Bh,Az,Ff,Fe,Hj,Fd,Eu,Fc,Ie,Ig,Fa,Ew,H2,Cl,I5,Ad,Ac,Dy,List.map_cons,List.map_nil,List.length_cons,List.length_nil,List.append_nil,List.flatMap_cons,List.flatMap_nil,List.contains_cons,List.contains_nil,decide_eq_true_eq,Nat.reduceLT,Nat.reduceEqDiff,Nat.reduceAdd,Cc,Bw,↓reduceIte,reduceCtorEq,Nat.zero_add,Bool.false_eq_true,Bool.or_false,beq_self_eq_true,hc])
   (repeat' (first | (refine iteI (fun h=>?_) (fun h=>?_))|(refine B1 (by first | omega | (simp (disch:=omega) only [Aa,Ak,Ai] at *;omega)) ?_;intro b hb)|(refine And.intro (by first | omega | (simp (disch:=omega) only [Aa,Ak,Ai] at *;omega)) ?_)|((first | (refine Ba hm (by rfl) (by kernel_rfl) ?_)|(refine Det.use (Po) ?_)|(refine Det.useQ (Po) ?_));simp only [Cn,Ab,Bd,A1,Bc,Ct,Bf,Aj,Ag,Ae,A3,Ik,Kt,Gk,Dz,Es,Hk,Hp,Fm,Fh,Fs,Fx,Fv,Hl,Jd,D6,Bu,D7,Eg,B6,Bs,Cs,Cr,A6,A7,B9,Av,Ap,Al,B7,B5,Af,Am,Ao,Co,Ay,Aw,A2,Ad,Ac,List.map_cons,List.map_nil,List.nil_append,Nat.reduceLT,Nat.reduceLeDiff,Nat.reduceEqDiff,↓reduceIte,and_self])|(exact True.intro)|(exfalso;omega)))
  ·have hl0:(Hd p).length≠0:=fun h=>hne (List.eq_nil_of_length_eq_zero h)
   rw [P5 hne]
   (refine Ax hm _ _ _ ?_;simp only [Ah,Bm,Br,Eh,Ab,Ci,B0,Bd,A1,Bc,Bf,Ch,B8,Cg,Bq,Au,Ar,Dm,Ag,Ae,H1,Cf,Bv,Bi,Bz,Bx,Fb,D7,Gn,Fr,Fq,Eg,Di,Fi,D2,Gw,Ey,Bh,Az,Ff,Fe,Hj,Fd,Eu,Fc,H3,Ie,Ig,Fa,Ew,H2,Jq,I5,Ki,Ad,Ac,Dy,List.map_cons,List.map_nil,List.length_cons,List.length_nil,List.cons_append,List.nil_append,List.append_nil,List.flatMap_cons,List.flatMap_nil,List.contains_cons,List.contains_nil,decide_eq_true_eq,Nat.reduceLT,Nat.reduceLeDiff,Nat.reduceEqDiff,Nat.reduceAdd,Nat.reduceBEq,and_true,Cc,Bw,↓reduceIte,reduceCtorEq,Nat.zero_add,Bool.false_eq_true,Bool.and_true,Bool.or_false,beq_self_eq_true,hc])
   (repeat' (first | (refine iteI (fun h=>?_) (fun h=>?_))|(refine B1 (by first | omega | (simp (disch:=omega) only [Aa,Ak,Ai] at *;omega)) ?_;intro b hb)|(refine And.intro (by first | omega | (simp (disch:=omega) only [Aa,Ak,Ai] at *;omega)) ?_)|((first | (refine Ba hm (by rfl) (by kernel_rfl) ?_)|(refine Det.use (Og (Hd p) _ rfl (by omega) hl0) ?_)|(refine Det.useQ (Og (Hd p) _ rfl (by omega) hl0) ?_));simp only [Cn,Ab,Bd,A1,Bc,Ct,Bf,Aj,Ag,Ae,A3,Ik,D3,Gk,Dz,Es,Hk,Hp,Fm,Fh,Fs,Fx,Mg,Fv,Hl,Jd,D6,Bu,D7,Iu,Ip,Ft,Gl,Eg,B6,Fi,H7,Gw,Bs,Cs,Cr,A6,A7,B9,Av,Ap,Al,B7,B5,Af,Am,Ao,Co,Ay,Aw,A2,Ad,Ac,Cq,Bg,Bb,List.map_cons,List.map_nil,List.nil_append,Nat.reduceLT,Nat.reduceLeDiff,Nat.reduceEqDiff,↓reduceIte,and_self])|(exact True.intro)|(exfalso;omega)))
 ·have hlt:=Decidable.not_not.1 hlt
  obtain ⟨x,hx⟩:∃ x,p[i]? = some x:=⟨_,List.getElem?_eq_getElem hlt⟩
  have hg:=My hx
  have hm':=List.mem_of_getElem? hx
  have hc:((i:Int)<(p.length:Int))=True:=eq_true (by omega)
  have hox:=hok x hm'
  have hnx:=hn x hm'
  have hS:=Jc3 hox hnx
  have hS1:=Wh x
  have hnext:Hd (p.take (i+1))=Hd (p.take i) ++ Hh x:=by rw [List.take_add_one,hx,Option.toList_some,Jg9,Jab]
  have hnn:Hd (p.take (i+1))≠[]:=fun h=>by rw [hnext] at h;rw [(List.append_eq_nil_iff.1 h).2] at hS1;simp at hS1
  have hrow:bstr (Hd (p.take (i+1)))=bstr (Hd (p.take i)) ++ bstr (Hh x):=by rw [hnext,Rw]
  have hlen:(Hd (p.take (i+1))).length=(Hd (p.take i)).length+(Hh x).length:=by rw [hnext,List.length_append]
  have hw:=wi1 (i:=i) (by omega)
  cases hpt:x.part
  ·unfold Fw at hox
   rw [if_neg (by simp [hpt])] at hox
   skip
   by_cases hwd:isWd x.name
   ·have hst:Hh x=46 :: x.name:=by unfold Hh;rw [if_neg (by simp [hpt]),if_pos hwd]
    have hdw:decide (isWd x.name)=true:=decide_eq_true hwd
    skip
    by_cases hne:Hd (p.take i)=[]
    ·rw [hne,Vx]
     rw [hne,show bstr []=[] from rfl,List.nil_append] at hrow
     rw [hne,List.length_nil,Nat.zero_add] at hlen
     (refine Ax hm _ _ _ ?_;simp only [Cb,Ah,Bm,Br,Ce,Ab,Bd,A1,Bc,C1,Ct,Bf,Ch,Aj,B8,Ed,Fk,C8,Cv,Hv,Cg,Bo,Bl,Bq,Au,Ar,Dm,Eo,Cj,Ei,C0,G3,C5,I6,Dv,E0,Gy,Hw,Cu,E5,Iz,Fj,Ii,Ef,Ag,Ae,A3,Cf,Bv,Bi,Bz,Bx,A4,B6,Bh,Az,A5,Aw,B4,C4,Cp,Hy,Ez,Jr,H8,Cl,Ad,Ac,Bn,Bg,Bb,List.map_cons,List.map_nil,List.length_cons,List.length_nil,List.nil_append,List.append_nil,List.flatMap_cons,List.flatMap_nil,List.take_succ_cons,List.take_zero,List.take_nil,List.drop_succ_cons,List.drop_nil,List.getElem?_cons_zero,List.getElem?_cons_succ,decide_eq_true_eq,ne_eq,not_false_eq_true,Nat.reduceLT,Nat.reduceLeDiff,Nat.reduceEqDiff,Nat.reduceAdd,true_and,Cc,Bw,↓reduceIte,reduceCtorEq,Int.toNat_natCast,Int.natCast_nonneg,Nat.zero_add,Bool.false_eq_true,Bool.true_and,Bool.or_false,Pa,M1,L5,Kg,J8,J0,Jm,Jj,Iq,Jy,hc,hg,hpt])
     (repeat' (first | (refine iteI (fun h=>?_) (fun h=>?_))|(refine B1 (by first | omega | (simp (disch:=omega) only [Aa,Ak,Ai] at *;omega)) ?_;intro b hb)|(refine And.intro (by first | omega | (simp (disch:=omega) only [Aa,Ak,Ai] at *;omega)) ?_)|((first | (refine Ba hm (by rfl) (by kernel_rfl) ?_)|(refine Det.use (Oa x.name (by omega)) ?_)|(refine Det.useQ (Oa x.name (by omega)) ?_)|(refine Det.use (Kj (46 :: x.name) (by rw [← hst];omega)) ?_)|(refine Det.useQ (Kj (46 :: x.name) (by rw [← hst];omega)) ?_));simp only [Ah,Br,Ab,Bk,Bd,A1,Bc,Ct,Bf,A0,Ch,Ca,F6,A9,Aj,B8,Ed,C8,Cg,Bl,Bq,Au,Ep,Bt,Ar,E8,Mo,C0,G3,C5,Dv,E0,Ag,Ae,A3,H1,Cf,Bv,Bi,Bz,Bx,Fb,Bp,Ik,D3,Hq,G2,Dz,Es,Hk,H6,Lo,Fm,Fh,Fs,Ih,Fx,Hs,Hl,Jz,Bu,Jt,D7,Iu,Hm,Nz,Ft,Gl,Gn,Fr,Fq,J5,Eg,Di,B6,Fi,D2,Jl,Et,Gw,Ey,Bh,Az,Ff,Fe,Hj,Fd,Eu,Fc,Ie,Ig,Fa,Ew,Aw,H2,Cl,I5,Ad,Ac,Cq,Bg,Bb,Dy,List.map_cons,List.map_nil,List.length_cons,List.length_nil,List.cons_append,List.nil_append,List.append_nil,List.flatMap_cons,List.flatMap_nil,List.contains_cons,List.contains_nil,List.getElem?_cons_zero,List.getElem?_cons_succ,decide_eq_true_eq,ne_eq,not_false_eq_true,Nat.reduceLT,Nat.reduceLeDiff,Nat.reduceEqDiff,Nat.reduceAdd,Nat.reduceBEq,true_and,Cc,Bw,↓reduceIte,reduceCtorEq,Nat.zero_add,Bool.false_eq_true,Bool.true_and,Bool.or_false,Bool.or_true,beq_self_eq_true,L5,Kg,Iq,hw,hdw])|(exact True.intro)|(exfalso;omega)))
     refine ⟨i+1,by omega,by omega,?_⟩
     rw [P5 hnn,hrow,hlen,hst]
     refine St.Le.trans (Jh [(33,25)] _ (by simp)) ?_
     simp only [Bu,Fn,Eg,Di,B6,Fi,D2,Jl,Et,Gw,Ey,Af,C3,Gj,Fl,D8,Dr,Du,Cq,Bg,Bb,List.map_cons,List.map_nil,List.length_cons,Nat.reduceEqDiff,↓reduceIte]
     exact (St.le_slots (by simp only [Cd,Ck,Ac,Be,Aq,Nat.reduceEqDiff,reduceIte,Nat.reduceLT,Nat.reduceLeDiff];simp (disch:=omega) [Aq,A8,Cm,Aa] <;> (repeat' apply And.intro) <;> omega) (by simp (disch:=omega) [Dc,Ee,C9,Bj,Aq,A8,Cm,Aa]) (by simp [De]))
    ·rw [P5 hne]
     (refine Ax hm _ _ _ ?_;simp only [Cb,Ah,Bm,Br,Ce,Ab,Bd,A1,Bc,C1,Ct,Bf,Ch,Aj,B8,Ed,Fk,C8,Cv,Hv,Cg,Bo,Bl,Bq,Au,Ar,Dm,Eo,Cj,Ei,C0,G3,C5,I6,Dv,E0,Gy,Hw,Cu,E5,Iz,Fj,Ii,Ef,Ag,Ae,A3,Cf,Bv,Bi,Bz,Bx,A4,B6,Bh,Az,A5,Aw,B4,C4,Cp,Hy,Fy,Ez,Jr,H8,Ga,Cl,Ad,Ac,Bn,Bg,Bb,List.map_cons,List.map_nil,List.length_cons,List.length_nil,List.nil_append,List.append_nil,List.flatMap_cons,List.flatMap_nil,List.take_succ_cons,List.take_zero,List.take_nil,List.drop_succ_cons,List.drop_nil,List.getElem?_cons_zero,List.getElem?_cons_succ,decide_eq_true_eq,ne_eq,not_false_eq_true,Nat.reduceLT,Nat.reduceLeDiff,Nat.reduceEqDiff,Nat.reduceAdd,true_and,Cc,Bw,↓reduceIte,reduceCtorEq,Int.toNat_natCast,Int.natCast_nonneg,Nat.zero_add,Bool.false_eq_true,Bool.true_and,Bool.or_false,Pa,M1,L5,Kg,J8,J0,Jm,Jj,Iq,Jy,hc,hg,hpt])
     (repeat' (first | (refine iteI (fun h=>?_) (fun h=>?_))|(refine B1 (by first | omega | (simp (disch:=omega) only [Aa,Ak,Ai] at *;omega)) ?_;intro b hb)|(refine And.intro (by first | omega | (simp (disch:=omega) only [Aa,Ak,Ai] at *;omega)) ?_)|((first | (refine Ba hm (by rfl) (by kernel_rfl) ?_)|(refine Det.use (Oa x.name (by omega)) ?_)|(refine Det.useQ (Oa x.name (by omega)) ?_)|(refine Det.use (Jo (46 :: x.name) _ _ (Mw _) (by omega) (by rw [← hst];omega)) ?_)|(refine Det.useQ (Jo (46 :: x.name) _ _ (Mw _) (by omega) (by rw [← hst];omega)) ?_));simp only [Ah,Br,Ab,Bk,Bd,A1,Bc,Ct,Bf,A0,Ch,Ca,F6,A9,Aj,B8,Ed,C8,Cg,Bl,Bq,Au,Ep,Bt,Ar,E8,Mo,C0,G3,C5,Dv,E0,Ag,Ae,A3,H1,Cf,Bv,Bi,Bz,Bx,Fb,Bp,Ik,D3,Hq,Gk,Dz,Es,Hk,Hp,Fm,Fh,Fs,Ih,Fx,Fv,Hl,Jd,D6,Bu,Jt,D7,Iu,Ip,Ft,Gl,Gn,Fr,Fq,J5,Eg,Di,B6,Fi,D2,Jl,Et,Gw,Ey,Bh,Az,Ff,Fe,Hj,Fd,Eu,Fc,H3,Ie,Ig,Fa,Ew,Aw,H2,Jq,Cl,I5,Ki,Ad,Ac,Cq,Bg,Bb,Dy,List.map_cons,List.map_nil,List.length_cons,List.length_nil,List.cons_append,List.nil_append,List.append_nil,List.flatMap_cons,List.flatMap_nil,List.contains_cons,List.contains_nil,List.getElem?_cons_zero,List.getElem?_cons_succ,Nat.reduceLT,Nat.reduceLeDiff,Nat.reduceEqDiff,Nat.reduceAdd,Nat.reduceBEq,true_and,and_true,Cc,Bw,↓reduceIte,reduceCtorEq,Nat.zero_add,Bool.false_eq_true,Bool.true_and,Bool.and_true,Bool.or_false,Bool.or_true,beq_self_eq_true,L5,Kg,Iq,hw,hdw])|(exact True.intro)|(exfalso;omega)))
     refine ⟨i+1,by omega,by omega,?_⟩
     rw [P5 hnn,hrow,hlen,hst]
     exact (St.le_slots (by simp only [Cd,Ck,Ac,Be,Aq,Nat.reduceEqDiff,reduceIte,Nat.reduceLT,Nat.reduceLeDiff];simp (disch:=omega) [Aq,A8,Cm,Aa] <;> (repeat' apply And.intro) <;> omega) (by simp (disch:=omega) [Dc,Ee,C9,Bj,Aq,A8,Cm,Aa]) (by simp [De]))
   ·have hst:Hh x=46 :: refQ x.name:=by unfold Hh;rw [if_neg (by simp [hpt]),if_neg hwd]
    have hdw:decide (isWd x.name)=false:=decide_eq_false hwd
    have hQ:=Jir x.name
    by_cases hne:Hd (p.take i)=[]
    ·rw [hne,Vx]
     rw [hne,show bstr []=[] from rfl,List.nil_append] at hrow
     rw [hne,List.length_nil,Nat.zero_add] at hlen
     (refine Ax hm _ _ _ ?_;simp only [Cb,Ah,Bm,Br,Ce,Ab,Bd,A1,Bc,C1,Ct,Bf,Ch,Aj,B8,Ed,Fk,C8,Cv,Hv,Cg,Bo,Bl,Bq,Au,Ar,Dm,Eo,Cj,Ei,C0,G3,C5,I6,Dv,E0,Gy,Hw,Cu,E5,Iz,Fj,Ii,Ef,Ag,Ae,A3,Cf,Bv,Bi,Bz,Bx,A4,B6,Bh,Az,A5,Aw,B4,C4,Cp,Hy,Ez,Jr,H8,Cl,Ad,Ac,Bn,Bg,Bb,List.map_cons,List.map_nil,List.length_cons,List.length_nil,List.nil_append,List.append_nil,List.flatMap_cons,List.flatMap_nil,List.take_succ_cons,List.take_zero,List.take_nil,List.drop_succ_cons,List.drop_nil,List.getElem?_cons_zero,List.getElem?_cons_succ,decide_eq_true_eq,ne_eq,not_false_eq_true,Nat.reduceLT,Nat.reduceLeDiff,Nat.reduceEqDiff,Nat.reduceAdd,true_and,Cc,Bw,↓reduceIte,reduceCtorEq,Int.toNat_natCast,Int.natCast_nonneg,Nat.zero_add,Bool.false_eq_true,Bool.true_and,Bool.or_false,Pa,M1,L5,Kg,J8,J0,Jm,Jj,Iq,Jy,hc,hg,hpt])
     (repeat' (first | (refine iteI (fun h=>?_) (fun h=>?_))|(refine B1 (by first | omega | (simp (disch:=omega) only [Aa,Ak,Ai] at *;omega)) ?_;intro b hb)|(refine And.intro (by first | omega | (simp (disch:=omega) only [Aa,Ak,Ai] at *;omega)) ?_)|((first | (refine Ba hm (by rfl) (by kernel_rfl) ?_)|(refine Det.use (Oa x.name (by omega)) ?_)|(refine Det.useQ (Oa x.name (by omega)) ?_)|(refine Det.use (Wi x.name (by omega) hox.2) ?_)|(refine Det.useQ (Wi x.name (by omega) hox.2) ?_)|(refine Det.use (Kj (46 :: refQ x.name) (by rw [← hst];omega)) ?_)|(refine Det.useQ (Kj (46 :: refQ x.name) (by rw [← hst];omega)) ?_));simp only [Ah,Br,Ab,Bk,Bd,A1,Bc,Ct,Bf,A0,Ch,Ca,F6,A9,Aj,B8,Ed,C8,Cg,Bl,Bq,Au,Ep,Bt,Ar,E8,Mo,C0,G3,C5,Dv,E0,Ag,Ae,A3,H1,Cf,Bv,Bi,Bz,Bx,Fb,A4,Bp,Ik,D3,Hq,G2,Dz,Es,Hk,H6,Lo,Fm,Fh,Fs,Ih,Fx,Hs,Hl,Jz,Bu,Jt,D7,Iu,Hm,Nz,Ft,Gl,Gn,Fr,Fq,J5,Eg,Di,B6,Fi,D2,Jl,Et,Gw,Ey,Bh,Az,Ff,A5,Fe,Hj,Fd,Eu,Fc,Ie,Ig,Fa,Ew,Aw,H2,Cl,I5,Ad,Ac,Cq,Bg,Bb,Dy,List.map_cons,List.map_nil,List.length_cons,List.length_nil,List.cons_append,List.nil_append,List.append_nil,List.flatMap_cons,List.flatMap_nil,List.contains_cons,List.contains_nil,List.getElem?_cons_zero,List.getElem?_cons_succ,decide_eq_true_eq,ne_eq,not_false_eq_true,Nat.reduceLT,Nat.reduceLeDiff,Nat.reduceEqDiff,Nat.reduceAdd,Nat.reduceBEq,true_and,Cc,Bw,↓reduceIte,reduceCtorEq,Nat.zero_add,Bool.false_eq_true,Bool.true_and,Bool.or_false,Bool.or_true,beq_self_eq_true,L5,Kg,Iq,hw,hdw])|(exact True.intro)|(exfalso;omega)))
     refine ⟨i+1,by omega,by omega,?_⟩
     rw [P5 hnn,hrow,hlen,hst]
     refine St.Le.trans (Jh [(16,25)] _ (by simp)) ?_
     simp only [Bu,Fn,Eg,Di,B6,Fi,D2,Jl,Et,Gw,Ey,Af,C3,Gj,Fl,D8,Dr,Du,Cq,Bg,Bb,List.map_cons,List.map_nil,List.length_cons,Nat.reduceEqDiff,↓reduceIte]
     exact (St.le_slots (by simp only [Cd,Ck,Ac,Be,Aq,Nat.reduceEqDiff,reduceIte,Nat.reduceLT,Nat.reduceLeDiff];simp (disch:=omega) [Aq,A8,Cm,Aa] <;> (repeat' apply And.intro) <;> omega) (by simp (disch:=omega) [Dc,Ee,C9,Bj,Aq,A8,Cm,Aa]) (by simp [De]))
    ·rw [P5 hne]
     (refine Ax hm _ _ _ ?_;simp only [Cb,Ah,Bm,Br,Ce,Ab,Bd,A1,Bc,C1,Ct,Bf,Ch,Aj,B8,Ed,Fk,C8,Cv,Hv,Cg,Bo,Bl,Bq,Au,Ar,Dm,Eo,Cj,Ei,C0,G3,C5,I6,Dv,E0,Gy,Hw,Cu,E5,Iz,Fj,Ii,Ef,Ag,Ae,A3,Cf,Bv,Bi,Bz,Bx,A4,B6,Bh,Az,A5,Aw,B4,C4,Cp,Hy,Fy,Ez,Jr,H8,Ga,Cl,Ad,Ac,Bn,Bg,Bb,List.map_cons,List.map_nil,List.length_cons,List.length_nil,List.nil_append,List.append_nil,List.flatMap_cons,List.flatMap_nil,List.take_succ_cons,List.take_zero,List.take_nil,List.drop_succ_cons,List.drop_nil,List.getElem?_cons_zero,List.getElem?_cons_succ,decide_eq_true_eq,ne_eq,not_false_eq_true,Nat.reduceLT,Nat.reduceLeDiff,Nat.reduceEqDiff,Nat.reduceAdd,true_and,Cc,Bw,↓reduceIte,reduceCtorEq,Int.toNat_natCast,Int.natCast_nonneg,Nat.zero_add,Bool.false_eq_true,Bool.true_and,Bool.or_false,Pa,M1,L5,Kg,J8,J0,Jm,Jj,Iq,Jy,hc,hg,hpt])
     (repeat' (first | (refine iteI (fun h=>?_) (fun h=>?_))|(refine B1 (by first | omega | (simp (disch:=omega) only [Aa,Ak,Ai] at *;omega)) ?_;intro b hb)|(refine And.intro (by first | omega | (simp (disch:=omega) only [Aa,Ak,Ai] at *;omega)) ?_)|((first | (refine Ba hm (by rfl) (by kernel_rfl) ?_)|(refine Det.use (Oa x.name (by omega)) ?_)|(refine Det.useQ (Oa x.name (by omega)) ?_)|(refine Det.use (Wi x.name (by omega) hox.2) ?_)|(refine Det.useQ (Wi x.name (by omega) hox.2) ?_)|(refine Det.use (Jo (46 :: refQ x.name) _ _ (Mw _) (by omega) (by rw [← hst];omega)) ?_)|(refine Det.useQ (Jo (46 :: refQ x.name) _ _ (Mw _) (by omega) (by rw [← hst];omega)) ?_));simp only [Ah,Br,Ab,Bk,Bd,A1,Bc,Ct,Bf,A0,Ch,Ca,F6,A9,Aj,B8,Ed,C8,Cg,Bl,Bq,Au,Ep,Bt,Ar,E8,Mo,C0,G3,C5,Dv,E0,Ag,Ae,A3,H1,Cf,Bv,Bi,Bz,Bx,Fb,A4,Bp,Ik,D3,Hq,Gk,Dz,Es,Hk,Hp,Fm,Fh,Fs,Ih,Fx,Fv,Hl,Jd,D6,Bu,Jt,D7,Iu,Ip,Ft,Gl,Gn,Fr,Fq,J5,Eg,Di,B6,Fi,D2,Jl,Et,Gw,Ey,Bh,Az,Ff,A5,Fe,Hj,Fd,Eu,Fc,H3,Ie,Ig,Fa,Ew,Aw,H2,Jq,Cl,I5,Ki,Ad,Ac,Cq,Bg,Bb,Dy,List.map_cons,List.map_nil,List.length_cons,List.length_nil,List.cons_append,List.nil_append,List.append_nil,List.flatMap_cons,List.flatMap_nil,List.contains_cons,List.contains_nil,List.getElem?_cons_zero,List.getElem?_cons_succ,Nat.reduceLT,Nat.reduceLeDiff,Nat.reduceEqDiff,Nat.reduceAdd,Nat.reduceBEq,true_and,and_true,Cc,Bw,↓reduceIte,reduceCtorEq,Nat.zero_add,Bool.false_eq_true,Bool.true_and,Bool.and_true,Bool.or_false,Bool.or_true,beq_self_eq_true,L5,Kg,Iq,hw,hdw])|(exact True.intro)|(exfalso;omega)))
     refine ⟨i+1,by omega,by omega,?_⟩
     rw [P5 hnn,hrow,hlen,hst]
     exact (St.le_slots (by simp only [Cd,Ck,Ac,Be,Aq,Nat.reduceEqDiff,reduceIte,Nat.reduceLT,Nat.reduceLeDiff];simp (disch:=omega) [Aq,A8,Cm,Aa] <;> (repeat' apply And.intro) <;> omega) (by simp (disch:=omega) [Dc,Ee,C9,Bj,Aq,A8,Cm,Aa]) (by simp [De]))
  ·have hst:Hh x=91 :: (Lib.itoa x.n ++ [93]):=by unfold Hh;rw [if_pos hpt]
   have hb:0≤x.n∧x.n≤1000000:=by unfold Fw at hox;rw [if_pos hpt] at hox;exact hox.2
   have hdw:=Ji5 hb.1 hb.2
   by_cases hne:Hd (p.take i)=[]
   ·rw [hne,Vx]
    rw [hne,show bstr []=[] from rfl,List.nil_append] at hrow
    rw [hne,List.length_nil,Nat.zero_add] at hlen
    (refine Ax hm _ _ _ ?_;simp only [Cb,Ah,Bm,Br,Ce,Ab,Bd,A1,Bc,C1,Ct,Bf,Ch,Aj,B8,Ed,Fk,C8,Cv,Hv,Cg,Bo,Bl,Bq,Au,Ar,Dm,Eo,Cj,Ei,C0,G3,C5,I6,Dv,E0,Gy,Hw,Cu,E5,Iz,Fj,Ii,Ef,Ag,Ae,A3,Cf,Bv,Bi,Bz,Bx,A4,B6,Bh,Az,A5,Aw,B4,C4,Cp,Hy,Ez,Jr,H8,Cl,Ad,Ac,Bn,Bg,Bb,List.map_cons,List.map_nil,List.length_cons,List.length_nil,List.nil_append,List.append_nil,List.flatMap_cons,List.flatMap_nil,List.take_succ_cons,List.take_zero,List.take_nil,List.drop_succ_cons,List.drop_nil,List.getElem?_cons_zero,List.getElem?_cons_succ,decide_eq_true_eq,ne_eq,not_false_eq_true,Nat.reduceLT,Nat.reduceLeDiff,Nat.reduceEqDiff,Nat.reduceAdd,true_and,Cc,Bw,↓reduceIte,reduceCtorEq,Int.toNat_natCast,Int.natCast_nonneg,Nat.zero_add,Bool.true_and,Bool.or_false,Ox,Mm,Pa,M1,J8,J0,Jm,Jj,L6,Jy,hc,hg,hpt])
    (repeat' (first | (refine iteI (fun h=>?_) (fun h=>?_))|(refine B1 (by first | omega | (simp (disch:=omega) only [Aa,Ak,Ai] at *;omega)) ?_;intro b hb)|(refine And.intro (by first | omega | (simp (disch:=omega) only [Aa,Ak,Ai] at *;omega)) ?_)|((first | (refine Ba hm (by rfl) (by kernel_rfl) ?_)|(refine Det.use (Jat x.n (by omega) (by omega)) ?_)|(refine Det.useQ (Jat x.n (by omega) (by omega)) ?_)|(refine Det.use (Kj (91 :: (Lib.itoa x.n ++ [93])) (by rw [← hst];omega)) ?_)|(refine Det.useQ (Kj (91 :: (Lib.itoa x.n ++ [93])) (by rw [← hst];omega)) ?_));simp only [Ah,Ab,Bk,Bd,A1,Bc,Ct,Bf,A0,Ch,Ca,F6,A9,B8,Cg,Au,Ep,Bt,Ar,E8,Mo,Ag,Ae,A3,H1,Cf,Bv,Bi,Bz,Bx,Fb,Bp,Ik,D3,Hq,G2,Dz,Es,Hk,H6,Lo,Fm,Fh,Fs,Ih,Fx,Hs,Hl,Jz,Bu,Jt,D7,Iu,Hm,Nz,Ft,Gl,Gn,Fr,Fq,J5,Eg,Di,B6,Fi,D2,Jl,Et,Gw,Ey,Bh,Az,Ff,Fe,Hj,Fd,Eu,Fc,Ie,Ig,Fa,Ew,Aw,H2,Cl,I5,Ad,Ac,Cq,Bg,Bb,Dy,List.map_cons,List.map_nil,List.length_cons,List.length_nil,List.cons_append,List.nil_append,List.append_nil,List.flatMap_cons,List.flatMap_nil,List.contains_cons,List.contains_nil,decide_eq_true_eq,ne_eq,not_false_eq_true,Nat.reduceLT,Nat.reduceLeDiff,Nat.reduceEqDiff,Nat.reduceAdd,Nat.reduceBEq,Cc,Bw,↓reduceIte,reduceCtorEq,Nat.zero_add,Bool.false_eq_true,Bool.or_false,Bool.or_true,beq_self_eq_true,hw])|(exact True.intro)|(exfalso;omega)))
    refine ⟨i+1,by omega,by omega,?_⟩
    rw [P5 hnn,hrow,hlen,hst]
    exact (St.le_slots (by simp only [Cd,Ck,Ac,Be,Aq,Nat.reduceEqDiff,reduceIte,Nat.reduceLT,Nat.reduceLeDiff];simp (disch:=omega) [Aq,A8,Cm,Aa] <;> (repeat' apply And.intro) <;> omega) (by simp (disch:=omega) [Dc,Ee,C9,Bj,Aq,A8,Cm,Aa]) (by simp [De]))
   ·rw [P5 hne]
    (refine Ax hm _ _ _ ?_;simp only [Cb,Ah,Bm,Br,Ce,Ab,Bd,A1,Bc,C1,Ct,Bf,Ch,Aj,B8,Ed,Fk,C8,Cv,Hv,Cg,Bo,Bl,Bq,Au,Ar,Dm,Eo,Cj,Ei,C0,G3,C5,I6,Dv,E0,Gy,Hw,Cu,E5,Iz,Fj,Ii,Ef,Ag,Ae,A3,Cf,Bv,Bi,Bz,Bx,A4,B6,Bh,Az,A5,Aw,B4,C4,Cp,Hy,Fy,Ez,Jr,H8,Ga,Cl,Ad,Ac,Bn,Bg,Bb,List.map_cons,List.map_nil,List.length_cons,List.length_nil,List.nil_append,List.append_nil,List.flatMap_cons,List.flatMap_nil,List.take_succ_cons,List.take_zero,List.take_nil,List.drop_succ_cons,List.drop_nil,List.getElem?_cons_zero,List.getElem?_cons_succ,decide_eq_true_eq,ne_eq,not_false_eq_true,Nat.reduceLT,Nat.reduceLeDiff,Nat.reduceEqDiff,Nat.reduceAdd,true_and,Cc,Bw,↓reduceIte,reduceCtorEq,Int.toNat_natCast,Int.natCast_nonneg,Nat.zero_add,Bool.true_and,Bool.or_false,Ox,Mm,Pa,M1,J8,J0,Jm,Jj,L6,Jy,hc,hg,hpt])
    (repeat' (first | (refine iteI (fun h=>?_) (fun h=>?_))|(refine B1 (by first | omega | (simp (disch:=omega) only [Aa,Ak,Ai] at *;omega)) ?_;intro b hb)|(refine And.intro (by first | omega | (simp (disch:=omega) only [Aa,Ak,Ai] at *;omega)) ?_)|((first | (refine Ba hm (by rfl) (by kernel_rfl) ?_)|(refine Det.use (Jat x.n (by omega) (by omega)) ?_)|(refine Det.useQ (Jat x.n (by omega) (by omega)) ?_)|(refine Det.use (Jo (91 :: (Lib.itoa x.n ++ [93])) _ _ (Mw _) (by omega) (by rw [← hst];omega)) ?_)|(refine Det.useQ (Jo (91 :: (Lib.itoa x.n ++ [93])) _ _ (Mw _) (by omega) (by rw [← hst];omega)) ?_));simp only [Ah,Ab,Bk,Bd,A1,Bc,Ct,Bf,A0,Ch,Ca,F6,A9,B8,Cg,Au,Ep,Bt,Ar,E8,Mo,Ag,Ae,A3,H1,Cf,Bv,Bi,Bz,Bx,Fb,Bp,Ik,D3,Hq,Gk,Dz,Es,Hk,Hp,Fm,Fh,Fs,Ih,Fx,Fv,Hl,Jd,D6,Bu,Jt,D7,Iu,Ip,Ft,Gl,Gn,Fr,Fq,J5,Eg,Di,B6,Fi,D2,Jl,Et,Gw,Ey,Bh,Az,Ff,Fe,Hj,Fd,Eu,Fc,H3,Ie,Ig,Fa,Ew,Aw,H2,Jq,Cl,I5,Ki,Ad,Ac,Cq,Bg,Bb,Dy,List.map_cons,List.map_nil,List.length_cons,List.length_nil,List.cons_append,List.nil_append,List.append_nil,List.flatMap_cons,List.flatMap_nil,List.contains_cons,List.contains_nil,Nat.reduceLT,Nat.reduceLeDiff,Nat.reduceEqDiff,Nat.reduceAdd,Nat.reduceBEq,and_true,Cc,Bw,↓reduceIte,reduceCtorEq,Nat.zero_add,Bool.false_eq_true,Bool.and_true,Bool.or_false,Bool.or_true,beq_self_eq_true,hw])|(exact True.intro)|(exfalso;omega)))
    refine ⟨i+1,by omega,by omega,?_⟩
    rw [P5 hnn,hrow,hlen,hst]
    exact (St.le_slots (by simp only [Cd,Ck,Ac,Be,Aq,Nat.reduceEqDiff,reduceIte,Nat.reduceLT,Nat.reduceLeDiff];simp (disch:=omega) [Aq,A8,Cm,Aa] <;> (repeat' apply And.intro) <;> omega) (by simp (disch:=omega) [Dc,Ee,C9,Bj,Aq,A8,Cm,Aa]) (by simp [De]))
end Go.LX
