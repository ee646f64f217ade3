/- Paths: texts. -/
import Derived.Test.YtmejkfclabmijaaGreatDoorPathBackLxU
import Derived.Lib.ItoaLen
import Derived.Lib.AtoiTie
set_option linter.unusedSimpArgs false
set_option linter.unusedVariables false
set_option linter.unusedSectionVars false
set_option linter.unnecessarySimpa false
set_option maxRecDepth 100000
set_option maxHeartbeats 2000000
namespace Go.LX
open Go Go.RowKit Go.Proofs
attribute [local irreducible] Bz SWP Gm
theorem Ju (s:List UInt8) (hs:s.length≤1000000000):Det cx 118 [.ptr 1000 0 0,.p (.str s)] [(1000,.var 128 [.p .nptr,.p .snil])] (.tup [.int .i64 s.length,.nifc]) [(900,.row 5 1 (bstr s)),(1000,.var 128 [.ptr 1000 0 0,.own 900 0 s.length])]:=by
 (refine Bz.of_code (X:=cx) false [(14,900)] (by simp) Tryz.func118 (by kernel_rfl) rfl (by simp only [List.length_cons,List.length_nil,Tryz.ntmps118];decide) (by simp) ?_;refine Ax hm _ _ _ ?_;simp only [Tryz.ntmps118,Tryz.results118,Ah,Bn,Ab,Bd,A0,Bb,Be,Az,Ce,Cb,Ko,Ba,Ai,Cc,Ag,Ae,Hi,Cd,Bv,Bm,Bx,Bw,Ew,Dt,F2,Ff,Fe,Dy,B3,E3,F9,Bi,Ay,Ev,Et,Gw,Ey,Ee,Ez,Ho,Hp,Eu,Ed,Hg,Cj,Ie,Ad,Ac,argW,List.map_cons,List.map_nil,List.length_cons,List.length_nil,List.append_nil,List.flatMap_cons,List.flatMap_nil,List.contains_cons,List.contains_nil,Nat.reduceLT,Nat.reduceEqDiff,Nat.reduceAdd,Ca,Bu,↓reduceIte,reduceCtorEq,Nat.zero_add,Bool.false_eq_true,Bool.or_false,beq_self_eq_true])
 (repeat' (first | (refine iteI (fun h=>?_) (fun h=>?_))|(refine B2 (by first | omega | (simp (disch:=omega) only [Aa,Ak,Aj] at *;omega)) ?_;intro b hb)|(refine And.intro (by first | omega | (simp (disch:=omega) only [Aa,Ak,Aj] at *;omega)) ?_)|((first | (refine A9 hm (by rfl) (by kernel_rfl) ?_)|(refine Det.use (J9) ?_)|(refine Det.useQ (J9) ?_));simp only [Ah,Bn,Cn,Ab,Bd,A0,Bb,Dd,Cs,Be,Az,Ko,Ba,Ai,Wc,D5,Gn,C2,Eg,Fy,Bp,Bg,D9,Fb,Cv,Gd,C5,Da,Ej,K9,Cr,Mm,Jw,Gl,Jc,Fj,Ag,Ae,A3,Hv,J3,Fw,Df,Eb,Gu,G5,E4,E2,Fg,Fm,Fi,Gv,Ih,Dp,Bk,Dt,Hz,Hx,E8,Dy,C1,B3,E3,Dl,Fc,F9,Ek,Ii,G0,F1,Zx,Tn,Jcp,Qq,Bt,Cy,Cz,A7,A8,B9,Aw,Ao,D2,B5,B6,Af,Ct,F3,Fa,Dx,C9,C8,Am,Ap,De,Ar,B1,Cw,Cu,Hw,E6,Ky,H3,A2,Ad,Ac,Bl,Cg,Bf,A6,List.map_cons,List.map_nil,List.length_cons,List.length_nil,List.cons_append,List.nil_append,List.append_nil,List.length_map,List.take_succ_cons,List.take_zero,List.drop_succ_cons,List.drop_nil,List.getElem?_cons_zero,List.getElem?_cons_succ,ne_eq,not_false_eq_true,Nat.reduceLT,Nat.reduceLeDiff,Nat.reduceEqDiff,Nat.reduceAdd,true_and,and_true,Ca,↓reduceIte,reduceCtorEq,Nat.zero_add,List.cons.injEq,Bool.true_and,Bool.and_true,T8,Jgt,Je7,Jgx,Ja,Td,Tj,Ry,O0])|(exact True.intro)|(exfalso;omega)))
 exact ⟨Jje s,by omega,by omega,rfl⟩
def Hs (x:Step):List UInt8:=if x.part=true then 91 :: (Lib.itoa x.n ++ [93]) else if isWd x.name then 46 :: x.name else 46 :: refQ x.name
def Hh (p:List Step):List UInt8:=p.flatMap Hs
def Rt (p:List Step):List UInt8:=match p with
 | []=>[46]
 | x :: _=>if x.part=true then 46 :: Hh p else Hh p
theorem Vo (x:Step):1≤(Hs x).length:=by
 unfold Hs
 split
 ·simp
 ·split <;> simp
theorem Jou (s:List UInt8):(refQ s).length≤6 * s.length+2:=by
 have:=wrs_le s
 unfold refQ;simp;omega
theorem Jnc {n:Int} (h0:0≤n) (h1:n≤1000000):(Lib.itoa n).length≤21:=Lib.itoa_length_le n (by omega) (by omega)
theorem Jky {x:Step} (h:Fs x) (hn:x.name.length≤1000):(Hs x).length≤7000:=by
 have h1:=Jou x.name
 unfold Fs at h
 unfold Hs
 split
 ·rename_i hp
  rw [if_pos hp] at h
  have:=Jnc h.2.1 h.2.2
  simp;omega
 ·split <;> simp <;> omega
theorem Jc7 {p:List Step} (h:∀ x∈p,Fs x) (hn:∀ x∈p,x.name.length≤1000):(Hh p).length≤7000 * p.length:=by
 induction p with
 | nil=>simp [Hh]
 | cons x p ih =>
  have h1:=ih (fun y hy=>h y (List.mem_cons_of_mem _ hy)) (fun y hy=>hn y (List.mem_cons_of_mem _ hy))
  have h2:=Jky (h x List.mem_cons_self) (hn x List.mem_cons_self)
  unfold Hh at *
  rw [List.flatMap_cons,List.length_append,List.length_cons]
  omega
theorem Jp4 (p q:List Step):Hh (p ++ q)=Hh p ++ Hh q:=by simp [Hh]
theorem Jpb (x:Step):Hh [x]=Hs x:=by simp [Hh]
def tlSt (p:List Step) (i:Nat):List UInt8→St
 | []=>⟨Fo 36 [(0,.p (.sl (Gp p))),(3,.ptr 3 0 0),(6,.p (.sl (Gp p))),(7,.p (.int .i64 p.length)),(8,.p (.int .i64 i))],[(3,.var 128 [.p .nptr,.p .snil])]⟩
 | c :: t=>⟨Fo 36 [(0,.p (.sl (Gp p))),(3,.ptr 3 0 0),(6,.p (.sl (Gp p))),(7,.p (.int .i64 p.length)),(8,.p (.int .i64 i))],[(25,.row 5 1 (bstr (c :: t))),(3,.var 128 [.ptr 3 0 0,.own 25 0 (c :: t).length])]⟩
theorem Ph {p:List Step} {i:Nat} {out:List UInt8} (h:out≠[]):tlSt p i out=⟨Fo 36 [(0,.p (.sl (Gp p))),(3,.ptr 3 0 0),(6,.p (.sl (Gp p))),(7,.p (.int .i64 p.length)),(8,.p (.int .i64 i))],[(25,.row 5 1 (bstr out)),(3,.var 128 [.ptr 3 0 0,.own 25 0 out.length])]⟩:=by
 cases out with
 | nil=>exact absurd rfl h
 | cons c t=>rfl
theorem Vf {p:List Step} {i:Nat}:tlSt p i []=⟨Fo 36 [(0,.p (.sl (Gp p))),(3,.ptr 3 0 0),(6,.p (.sl (Gp p))),(7,.p (.int .i64 p.length)),(8,.p (.int .i64 i))],[(3,.var 128 [.p .nptr,.p .snil])]⟩:=rfl
theorem Zw (p:List Step) (hp:p.length≤100) (hok:∀ x∈p,Fs x) (hn:∀ x∈p,x.name.length≤1000):Det cx 55 [.p (.sl (Gp p))] [] (.p (.str (Hh p))) []:=by
 skip
 (refine Bz.of_code (X:=cx) false [] (by simp) Tryz.func55 (by kernel_rfl) rfl (by simp only [List.length_cons,List.length_nil,Tryz.ntmps55];decide) (by simp) ?_;refine Ax hm _ _ _ ?_;simp only [Tryz.ntmps55,Tryz.results55,Ah,Bn,Ci,H9,Ab,Bd,A0,Bb,Cs,Be,Az,Cb,Hc,Ba,Ai,Eg,H2,Bp,D9,D0,G7,H5,Cr,B1,E6,Ad,Ac,Bl,Bf,A6,argW,List.map_cons,List.map_nil,Nat.reduceLT,true_and,Ca,↓reduceIte,reduceCtorEq,Bool.true_and,I9,Jg5,Dr])
 (repeat' (first | (refine iteI (fun h=>?_) (fun h=>?_))|(refine B2 (by first | omega | (simp (disch:=omega) only [Aa,Ak,Aj] at *;omega)) ?_;intro b hb)|(refine And.intro (by first | omega | (simp (disch:=omega) only [Aa,Ak,Aj] at *;omega)) ?_)|((first | (refine A9 hm (by rfl) (by kernel_rfl) ?_));simp only [Dm])|(exact True.intro)|(exfalso;omega)))
 refine SWP.loop (fun i:Nat=>tlSt p i (Hh (p.take i))) (fun i=>i≤p.length) (fun i=>p.length - i) 0 (by show St.Le _ (tlSt p 0 []);rw [Vf];exact (St.le_slots (by simp only [Ck,Cm,Ac,Bj,Au,Nat.reduceEqDiff,reduceIte,Nat.reduceLT,Nat.reduceLeDiff];simp (disch:=omega) [Au,Bc,Cq,Aa] <;> (repeat' apply And.intro) <;> omega) (by simp (disch:=omega) [Dj,Eo,Dg,Bh,Au,Bc,Cq,Aa]) (by simp [Dk]))) (Nat.zero_le _) ?_
 rintro i hi
 have hT:=Jc7 (p:=p.take i) (fun x hx=>hok x (List.mem_of_mem_take hx)) (fun x hx=>hn x (List.mem_of_mem_take hx))
 rw [List.length_take] at hT
 by_cases hlt:¬ i<p.length
 ·have hc:((i:Int)<(p.length:Int))=False:=eq_false (by omega)
  have htl:p.take i=p:=List.take_of_length_le (by omega)
  rw [htl] at hT ⊢
  by_cases hne:Hh p=[]
  ·rw [hne,Vf]
   skip
   (refine Ax hm _ _ _ ?_;simp only [Ah,Bn,Bs,Fd,Ab,Co,B4,Bd,A0,Bb,Be,Ce,B8,Cc,Br,Av,Aq,D1,Ag,Ae,Hi,Cd,Bv,Bm,Bx,Bw,Ew,Dt,F2,Ff,Fe,Dy,B3,E3,F9,Bi,Ay,Ev,Et,Gw,Ey,Ee,Ez,Ho,Hp,Eu,Ed,Hg,Cj,Ie,Ad,Ac,Ea,List.map_cons,List.map_nil,List.length_cons,List.length_nil,List.append_nil,List.flatMap_cons,List.flatMap_nil,List.contains_cons,List.contains_nil,decide_eq_true_eq,Nat.reduceLT,Nat.reduceEqDiff,Nat.reduceAdd,Ca,Bu,↓reduceIte,reduceCtorEq,Nat.zero_add,Bool.false_eq_true,Bool.or_false,beq_self_eq_true,hc])
   (repeat' (first | (refine iteI (fun h=>?_) (fun h=>?_))|(refine B2 (by first | omega | (simp (disch:=omega) only [Aa,Ak,Aj] at *;omega)) ?_;intro b hb)|(refine And.intro (by first | omega | (simp (disch:=omega) only [Aa,Ak,Aj] at *;omega)) ?_)|((first | (refine A9 hm (by rfl) (by kernel_rfl) ?_)|(refine Det.use (Ox) ?_)|(refine Det.useQ (Ox) ?_));simp only [Cn,Ab,Bd,A0,Bb,Cs,Be,Ai,Ag,Ae,A3,Hv,J3,Fw,Df,Eb,Gu,G5,E4,E2,Fg,Fm,Fi,Gv,Ih,Dp,Bk,Dt,Dy,B3,Bt,Cy,Cz,A7,A8,B9,Aw,Ao,Al,B5,B6,Af,Am,Ap,Cl,A1,Ar,A2,Ad,Ac,List.map_cons,List.map_nil,List.nil_append,Nat.reduceLT,Nat.reduceLeDiff,Nat.reduceEqDiff,↓reduceIte,and_self])|(exact True.intro)|(exfalso;omega)))
  ·have hl0:(Hh p).length≠0:=fun h=>hne (List.eq_nil_of_length_eq_zero h)
   rw [Ph hne]
   (refine Ax hm _ _ _ ?_;simp only [Ah,Bn,Bs,Fd,Ab,Co,B4,Bd,A0,Bb,Be,Ce,B8,Cc,Br,Av,Aq,D1,Ag,Ae,Hi,Cd,Bv,Bm,Bx,Bw,Ew,Dt,F2,Ff,Fe,Dy,C1,E3,Dl,F9,Ek,Bi,Ay,Ev,Et,Gw,Ey,Ee,Ez,Hk,Ho,Hp,Eu,Ed,Hg,Iw,Ie,Jr,Ad,Ac,Ea,List.map_cons,List.map_nil,List.length_cons,List.length_nil,List.cons_append,List.nil_append,List.append_nil,List.flatMap_cons,List.flatMap_nil,List.contains_cons,List.contains_nil,decide_eq_true_eq,Nat.reduceLT,Nat.reduceLeDiff,Nat.reduceEqDiff,Nat.reduceAdd,Nat.reduceBEq,and_true,Ca,Bu,↓reduceIte,reduceCtorEq,Nat.zero_add,Bool.false_eq_true,Bool.and_true,Bool.or_false,beq_self_eq_true,hc])
   (repeat' (first | (refine iteI (fun h=>?_) (fun h=>?_))|(refine B2 (by first | omega | (simp (disch:=omega) only [Aa,Ak,Aj] at *;omega)) ?_;intro b hb)|(refine And.intro (by first | omega | (simp (disch:=omega) only [Aa,Ak,Aj] at *;omega)) ?_)|((first | (refine A9 hm (by rfl) (by kernel_rfl) ?_)|(refine Det.use (Nh (Hh p) _ rfl (by omega) hl0) ?_)|(refine Det.useQ (Nh (Hh p) _ rfl (by omega) hl0) ?_));simp only [Cn,Ab,Bd,A0,Bb,Cs,Be,Ai,Ag,Ae,A3,Hv,Dn,Fw,Df,Eb,Gu,G5,E4,E2,Fg,Fm,Lv,Fi,Gv,Ih,Dp,Bk,Dt,Hz,Hx,Fh,Fx,Dy,B3,E3,Hq,F9,Bt,Cy,Cz,A7,A8,B9,Aw,Ao,Al,B5,B6,Af,Am,Ap,Cl,A1,Ar,A2,Ad,Ac,Cg,Bf,A6,List.map_cons,List.map_nil,List.nil_append,Nat.reduceLT,Nat.reduceLeDiff,Nat.reduceEqDiff,↓reduceIte,and_self])|(exact True.intro)|(exfalso;omega)))
 ·have hlt:=Decidable.not_not.1 hlt
  obtain ⟨x,hx⟩:∃ x,p[i]? = some x:=⟨_,List.getElem?_eq_getElem hlt⟩
  have hg:=M8 hx
  have hm':=List.mem_of_getElem? hx
  have hc:((i:Int)<(p.length:Int))=True:=eq_true (by omega)
  have hox:=hok x hm'
  have hnx:=hn x hm'
  have hS:=Jky hox hnx
  have hS1:=Vo x
  have hnext:Hh (p.take (i+1))=Hh (p.take i) ++ Hs x:=by rw [List.take_add_one,hx,Option.toList_some,Jp4,Jpb]
  have hnn:Hh (p.take (i+1))≠[]:=fun h=>by rw [hnext] at h;rw [(List.append_eq_nil_iff.1 h).2] at hS1;simp at hS1
  have hrow:bstr (Hh (p.take (i+1)))=bstr (Hh (p.take i)) ++ bstr (Hs x):=by rw [hnext,Rc]
  have hlen:(Hh (p.take (i+1))).length=(Hh (p.take i)).length+(Hs x).length:=by rw [hnext,List.length_append]
  have hw:=wi1 (i:=i) (by omega)
  cases hpt:x.part
  ·unfold Fs at hox
   rw [if_neg (by simp [hpt])] at hox
   skip
   by_cases hwd:isWd x.name
   ·have hst:Hs x=46 :: x.name:=by unfold Hs;rw [if_neg (by simp [hpt]),if_pos hwd]
    have hdw:decide (isWd x.name)=true:=decide_eq_true hwd
    skip
    by_cases hne:Hh (p.take i)=[]
    ·rw [hne,Vf]
     rw [hne,show bstr []=[] from rfl,List.nil_append] at hrow
     rw [hne,List.length_nil,Nat.zero_add] at hlen
     (refine Ax hm _ _ _ ?_;simp only [Ch,Ah,Bn,Bs,Ci,Ab,Bd,A0,Bb,Dd,Cs,Be,Ce,Ai,B8,D5,Gn,C2,Cp,H2,Cc,Bp,Bg,Br,Av,Aq,D1,Eh,B7,D7,Cv,Gd,C5,Ic,Da,Ej,G7,H5,Cr,Gj,Jw,Gl,Jc,Fj,Ag,Ae,A3,Cd,Bv,Bm,Bx,Bw,A5,B3,Bi,Ay,A4,Ar,B1,Cw,Cu,Hw,E6,I5,H3,Cj,Ad,Ac,Bl,Bf,A6,List.map_cons,List.map_nil,List.length_cons,List.length_nil,List.nil_append,List.append_nil,List.flatMap_cons,List.flatMap_nil,List.take_succ_cons,List.take_zero,List.take_nil,List.drop_succ_cons,List.drop_nil,List.getElem?_cons_zero,List.getElem?_cons_succ,decide_eq_true_eq,ne_eq,not_false_eq_true,Nat.reduceLT,Nat.reduceLeDiff,Nat.reduceEqDiff,Nat.reduceAdd,true_and,Ca,Bu,↓reduceIte,reduceCtorEq,Int.toNat_natCast,Int.natCast_nonneg,Nat.zero_add,Bool.false_eq_true,Bool.true_and,Bool.or_false,O9,Nr,L9,Kw,Kl,Lm,Kk,Jq,J4,Lk,hc,hg,hpt])
     (repeat' (first | (refine iteI (fun h=>?_) (fun h=>?_))|(refine B2 (by first | omega | (simp (disch:=omega) only [Aa,Ak,Aj] at *;omega)) ?_;intro b hb)|(refine And.intro (by first | omega | (simp (disch:=omega) only [Aa,Ak,Aj] at *;omega)) ?_)|((first | (refine A9 hm (by rfl) (by kernel_rfl) ?_)|(refine Det.use (Nw x.name (by omega)) ?_)|(refine Det.useQ (Nw x.name (by omega)) ?_)|(refine Det.use (Ju (46 :: x.name) (by rw [← hst];omega)) ?_)|(refine Det.useQ (Ju (46 :: x.name) (by rw [← hst];omega)) ?_));simp only [Ah,Bs,Ab,Bo,Bd,A0,Bb,Cs,Be,Az,Ce,Cb,Hc,Ba,Ai,B8,D5,C2,Cc,Bg,Br,Av,F4,B0,Aq,Hb,R8,Cv,Gd,C5,Da,Ej,Ag,Ae,A3,Hi,Cd,Bv,Bm,Bx,Bw,Ew,Bq,Hv,Dn,G4,Gc,Df,Eb,Gu,Hm,K8,E4,E2,Fg,Hr,Fm,G9,Gv,Jd,Bk,I4,Dt,Hz,Gx,M9,Fh,Fx,F2,Ff,Fe,Ji,Dy,C1,B3,E3,Dl,Il,Fc,F9,Ek,Bi,Ay,Ev,Et,Gw,Ey,Ee,Ez,Ho,Hp,Eu,Ed,Ar,Hg,Cj,Ie,Ad,Ac,Cg,Bf,A6,Ea,List.map_cons,List.map_nil,List.length_cons,List.length_nil,List.cons_append,List.nil_append,List.append_nil,List.flatMap_cons,List.flatMap_nil,List.contains_cons,List.contains_nil,List.getElem?_cons_zero,List.getElem?_cons_succ,decide_eq_true_eq,ne_eq,not_false_eq_true,Nat.reduceLT,Nat.reduceLeDiff,Nat.reduceEqDiff,Nat.reduceAdd,Nat.reduceBEq,true_and,Ca,Bu,↓reduceIte,reduceCtorEq,Nat.zero_add,Bool.false_eq_true,Bool.true_and,Bool.or_false,Bool.or_true,beq_self_eq_true,L9,Kw,J4,hw,hdw])|(exact True.intro)|(exfalso;omega)))
     refine ⟨i+1,by omega,by omega,?_⟩
     rw [Ph hnn,hrow,hlen,hst]
     refine St.Le.trans (Ix [(33,25)] _ (by simp)) ?_
     simp only [Bk,E8,Dy,C1,B3,E3,Dl,Il,Fc,F9,Ek,Af,Ct,F3,Fa,Dx,C9,C8,Cg,Bf,A6,List.map_cons,List.map_nil,List.length_cons,Nat.reduceEqDiff,↓reduceIte]
     exact (St.le_slots (by simp only [Ck,Cm,Ac,Bj,Au,Nat.reduceEqDiff,reduceIte,Nat.reduceLT,Nat.reduceLeDiff];simp (disch:=omega) [Au,Bc,Cq,Aa] <;> (repeat' apply And.intro) <;> omega) (by simp (disch:=omega) [Dj,Eo,Dg,Bh,Au,Bc,Cq,Aa]) (by simp [Dk]))
    ·rw [Ph hne]
     (refine Ax hm _ _ _ ?_;simp only [Ch,Ah,Bn,Bs,Ci,Ab,Bd,A0,Bb,Dd,Cs,Be,Ce,Ai,B8,D5,Gn,C2,Cp,H2,Cc,Bp,Bg,Br,Av,Aq,D1,Eh,B7,D7,Cv,Gd,C5,Ic,Da,Ej,G7,H5,Cr,Gj,Jw,Gl,Jc,Fj,Ag,Ae,A3,Cd,Bv,Bm,Bx,Bw,A5,B3,Bi,Ay,A4,Ar,B1,Cw,Cu,Hw,Fv,E6,I5,H3,F5,Cj,Ad,Ac,Bl,Bf,A6,List.map_cons,List.map_nil,List.length_cons,List.length_nil,List.nil_append,List.append_nil,List.flatMap_cons,List.flatMap_nil,List.take_succ_cons,List.take_zero,List.take_nil,List.drop_succ_cons,List.drop_nil,List.getElem?_cons_zero,List.getElem?_cons_succ,decide_eq_true_eq,ne_eq,not_false_eq_true,Nat.reduceLT,Nat.reduceLeDiff,Nat.reduceEqDiff,Nat.reduceAdd,true_and,Ca,Bu,↓reduceIte,reduceCtorEq,Int.toNat_natCast,Int.natCast_nonneg,Nat.zero_add,Bool.false_eq_true,Bool.true_and,Bool.or_false,O9,Nr,L9,Kw,Kl,Lm,Kk,Jq,J4,Lk,hc,hg,hpt])
     (repeat' (first | (refine iteI (fun h=>?_) (fun h=>?_))|(refine B2 (by first | omega | (simp (disch:=omega) only [Aa,Ak,Aj] at *;omega)) ?_;intro b hb)|(refine And.intro (by first | omega | (simp (disch:=omega) only [Aa,Ak,Aj] at *;omega)) ?_)|((first | (refine A9 hm (by rfl) (by kernel_rfl) ?_)|(refine Det.use (Nw x.name (by omega)) ?_)|(refine Det.useQ (Nw x.name (by omega)) ?_)|(refine Det.use (Ir (46 :: x.name) _ _ (Mb _) (by omega) (by rw [← hst];omega)) ?_)|(refine Det.useQ (Ir (46 :: x.name) _ _ (Mb _) (by omega) (by rw [← hst];omega)) ?_));simp only [Ah,Bs,Ab,Bo,Bd,A0,Bb,Cs,Be,Az,Ce,Cb,Hc,Ba,Ai,B8,D5,C2,Cc,Bg,Br,Av,F4,B0,Aq,Hb,R8,Cv,Gd,C5,Da,Ej,Ag,Ae,A3,Hi,Cd,Bv,Bm,Bx,Bw,Ew,Bq,Hv,Dn,G4,Fw,Df,Eb,Gu,G5,E4,E2,Fg,Hr,Fm,Fi,Gv,Ih,Dp,Bk,I4,Dt,Hz,Hx,Fh,Fx,F2,Ff,Fe,Ji,Dy,C1,B3,E3,Dl,Il,Fc,F9,Ek,Bi,Ay,Ev,Et,Gw,Ey,Ee,Ez,Hk,Ho,Hp,Eu,Ed,Ar,Hg,Iw,Cj,Ie,Jr,Ad,Ac,Cg,Bf,A6,Ea,List.map_cons,List.map_nil,List.length_cons,List.length_nil,List.cons_append,List.nil_append,List.append_nil,List.flatMap_cons,List.flatMap_nil,List.contains_cons,List.contains_nil,List.getElem?_cons_zero,List.getElem?_cons_succ,Nat.reduceLT,Nat.reduceLeDiff,Nat.reduceEqDiff,Nat.reduceAdd,Nat.reduceBEq,true_and,and_true,Ca,Bu,↓reduceIte,reduceCtorEq,Nat.zero_add,Bool.false_eq_true,Bool.true_and,Bool.and_true,Bool.or_false,Bool.or_true,beq_self_eq_true,L9,Kw,J4,hw,hdw])|(exact True.intro)|(exfalso;omega)))
     refine ⟨i+1,by omega,by omega,?_⟩
     rw [Ph hnn,hrow,hlen,hst]
     exact (St.le_slots (by simp only [Ck,Cm,Ac,Bj,Au,Nat.reduceEqDiff,reduceIte,Nat.reduceLT,Nat.reduceLeDiff];simp (disch:=omega) [Au,Bc,Cq,Aa] <;> (repeat' apply And.intro) <;> omega) (by simp (disch:=omega) [Dj,Eo,Dg,Bh,Au,Bc,Cq,Aa]) (by simp [Dk]))
   ·have hst:Hs x=46 :: refQ x.name:=by unfold Hs;rw [if_neg (by simp [hpt]),if_neg hwd]
    have hdw:decide (isWd x.name)=false:=decide_eq_false hwd
    have hQ:=Jou x.name
    by_cases hne:Hh (p.take i)=[]
    ·rw [hne,Vf]
     rw [hne,show bstr []=[] from rfl,List.nil_append] at hrow
     rw [hne,List.length_nil,Nat.zero_add] at hlen
     (refine Ax hm _ _ _ ?_;simp only [Ch,Ah,Bn,Bs,Ci,Ab,Bd,A0,Bb,Dd,Cs,Be,Ce,Ai,B8,D5,Gn,C2,Cp,H2,Cc,Bp,Bg,Br,Av,Aq,D1,Eh,B7,D7,Cv,Gd,C5,Ic,Da,Ej,G7,H5,Cr,Gj,Jw,Gl,Jc,Fj,Ag,Ae,A3,Cd,Bv,Bm,Bx,Bw,A5,B3,Bi,Ay,A4,Ar,B1,Cw,Cu,Hw,E6,I5,H3,Cj,Ad,Ac,Bl,Bf,A6,List.map_cons,List.map_nil,List.length_cons,List.length_nil,List.nil_append,List.append_nil,List.flatMap_cons,List.flatMap_nil,List.take_succ_cons,List.take_zero,List.take_nil,List.drop_succ_cons,List.drop_nil,List.getElem?_cons_zero,List.getElem?_cons_succ,decide_eq_true_eq,ne_eq,not_false_eq_true,Nat.reduceLT,Nat.reduceLeDiff,Nat.reduceEqDiff,Nat.reduceAdd,true_and,Ca,Bu,↓reduceIte,reduceCtorEq,Int.toNat_natCast,Int.natCast_nonneg,Nat.zero_add,Bool.false_eq_true,Bool.true_and,Bool.or_false,O9,Nr,L9,Kw,Kl,Lm,Kk,Jq,J4,Lk,hc,hg,hpt])
     (repeat' (first | (refine iteI (fun h=>?_) (fun h=>?_))|(refine B2 (by first | omega | (simp (disch:=omega) only [Aa,Ak,Aj] at *;omega)) ?_;intro b hb)|(refine And.intro (by first | omega | (simp (disch:=omega) only [Aa,Ak,Aj] at *;omega)) ?_)|((first | (refine A9 hm (by rfl) (by kernel_rfl) ?_)|(refine Det.use (Nw x.name (by omega)) ?_)|(refine Det.useQ (Nw x.name (by omega)) ?_)|(refine Det.use (Vz x.name (by omega) hox.2) ?_)|(refine Det.useQ (Vz x.name (by omega) hox.2) ?_)|(refine Det.use (Ju (46 :: refQ x.name) (by rw [← hst];omega)) ?_)|(refine Det.useQ (Ju (46 :: refQ x.name) (by rw [← hst];omega)) ?_));simp only [Ah,Bs,Ab,Bo,Bd,A0,Bb,Cs,Be,Az,Ce,Cb,Hc,Ba,Ai,B8,D5,C2,Cc,Bg,Br,Av,F4,B0,Aq,Hb,R8,Cv,Gd,C5,Da,Ej,Ag,Ae,A3,Hi,Cd,Bv,Bm,Bx,Bw,Ew,A5,Bq,Hv,Dn,G4,Gc,Df,Eb,Gu,Hm,K8,E4,E2,Fg,Hr,Fm,G9,Gv,Jd,Bk,I4,Dt,Hz,Gx,M9,Fh,Fx,F2,Ff,Fe,Ji,Dy,C1,B3,E3,Dl,Il,Fc,F9,Ek,Bi,Ay,Ev,A4,Et,Gw,Ey,Ee,Ez,Ho,Hp,Eu,Ed,Ar,Hg,Cj,Ie,Ad,Ac,Cg,Bf,A6,Ea,List.map_cons,List.map_nil,List.length_cons,List.length_nil,List.cons_append,List.nil_append,List.append_nil,List.flatMap_cons,List.flatMap_nil,List.contains_cons,List.contains_nil,List.getElem?_cons_zero,List.getElem?_cons_succ,decide_eq_true_eq,ne_eq,not_false_eq_true,Nat.reduceLT,Nat.reduceLeDiff,Nat.reduceEqDiff,Nat.reduceAdd,Nat.reduceBEq,true_and,Ca,Bu,↓reduceIte,reduceCtorEq,Nat.zero_add,Bool.false_eq_true,Bool.true_and,Bool.or_false,Bool.or_true,beq_self_eq_true,L9,Kw,J4,hw,hdw])|(exact True.intro)|(exfalso;omega)))
     refine ⟨i+1,by omega,by omega,?_⟩
     rw [Ph hnn,hrow,hlen,hst]
     refine St.Le.trans (Ix [(16,25)] _ (by simp)) ?_
     simp only [Bk,E8,Dy,C1,B3,E3,Dl,Il,Fc,F9,Ek,Af,Ct,F3,Fa,Dx,C9,C8,Cg,Bf,A6,List.map_cons,List.map_nil,List.length_cons,Nat.reduceEqDiff,↓reduceIte]
     exact (St.le_slots (by simp only [Ck,Cm,Ac,Bj,Au,Nat.reduceEqDiff,reduceIte,Nat.reduceLT,Nat.reduceLeDiff];simp (disch:=omega) [Au,Bc,Cq,Aa] <;> (repeat' apply And.intro) <;> omega) (by simp (disch:=omega) [Dj,Eo,Dg,Bh,Au,Bc,Cq,Aa]) (by simp [Dk]))
    ·rw [Ph hne]
     (refine Ax hm _ _ _ ?_;simp only [Ch,Ah,Bn,Bs,Ci,Ab,Bd,A0,Bb,Dd,Cs,Be,Ce,Ai,B8,D5,Gn,C2,Cp,H2,Cc,Bp,Bg,Br,Av,Aq,D1,Eh,B7,D7,Cv,Gd,C5,Ic,Da,Ej,G7,H5,Cr,Gj,Jw,Gl,Jc,Fj,Ag,Ae,A3,Cd,Bv,Bm,Bx,Bw,A5,B3,Bi,Ay,A4,Ar,B1,Cw,Cu,Hw,Fv,E6,I5,H3,F5,Cj,Ad,Ac,Bl,Bf,A6,List.map_cons,List.map_nil,List.length_cons,List.length_nil,List.nil_append,List.append_nil,List.flatMap_cons,List.flatMap_nil,List.take_succ_cons,List.take_zero,List.take_nil,List.drop_succ_cons,List.drop_nil,List.getElem?_cons_zero,List.getElem?_cons_succ,decide_eq_true_eq,ne_eq,not_false_eq_true,Nat.reduceLT,Nat.reduceLeDiff,Nat.reduceEqDiff,Nat.reduceAdd,true_and,Ca,Bu,↓reduceIte,reduceCtorEq,Int.toNat_natCast,Int.natCast_nonneg,Nat.zero_add,Bool.false_eq_true,Bool.true_and,Bool.or_false,O9,Nr,L9,Kw,Kl,Lm,Kk,Jq,J4,Lk,hc,hg,hpt])
     (repeat' (first | (refine iteI (fun h=>?_) (fun h=>?_))|(refine B2 (by first | omega | (simp (disch:=omega) only [Aa,Ak,Aj] at *;omega)) ?_;intro b hb)|(refine And.intro (by first | omega | (simp (disch:=omega) only [Aa,Ak,Aj] at *;omega)) ?_)|((first | (refine A9 hm (by rfl) (by kernel_rfl) ?_)|(refine Det.use (Nw x.name (by omega)) ?_)|(refine Det.useQ (Nw x.name (by omega)) ?_)|(refine Det.use (Vz x.name (by omega) hox.2) ?_)|(refine Det.useQ (Vz x.name (by omega) hox.2) ?_)|(refine Det.use (Ir (46 :: refQ x.name) _ _ (Mb _) (by omega) (by rw [← hst];omega)) ?_)|(refine Det.useQ (Ir (46 :: refQ x.name) _ _ (Mb _) (by omega) (by rw [← hst];omega)) ?_));simp only [Ah,Bs,Ab,Bo,Bd,A0,Bb,Cs,Be,Az,Ce,Cb,Hc,Ba,Ai,B8,D5,C2,Cc,Bg,Br,Av,F4,B0,Aq,Hb,R8,Cv,Gd,C5,Da,Ej,Ag,Ae,A3,Hi,Cd,Bv,Bm,Bx,Bw,Ew,A5,Bq,Hv,Dn,G4,Fw,Df,Eb,Gu,G5,E4,E2,Fg,Hr,Fm,Fi,Gv,Ih,Dp,Bk,I4,Dt,Hz,Hx,Fh,Fx,F2,Ff,Fe,Ji,Dy,C1,B3,E3,Dl,Il,Fc,F9,Ek,Bi,Ay,Ev,A4,Et,Gw,Ey,Ee,Ez,Hk,Ho,Hp,Eu,Ed,Ar,Hg,Iw,Cj,Ie,Jr,Ad,Ac,Cg,Bf,A6,Ea,List.map_cons,List.map_nil,List.length_cons,List.length_nil,List.cons_append,List.nil_append,List.append_nil,List.flatMap_cons,List.flatMap_nil,List.contains_cons,List.contains_nil,List.getElem?_cons_zero,List.getElem?_cons_succ,Nat.reduceLT,Nat.reduceLeDiff,Nat.reduceEqDiff,Nat.reduceAdd,Nat.reduceBEq,true_and,and_true,Ca,Bu,↓reduceIte,reduceCtorEq,Nat.zero_add,Bool.false_eq_true,Bool.true_and,Bool.and_true,Bool.or_false,Bool.or_true,beq_self_eq_true,L9,Kw,J4,hw,hdw])|(exact True.intro)|(exfalso;omega)))
     refine ⟨i+1,by omega,by omega,?_⟩
     rw [Ph hnn,hrow,hlen,hst]
     exact (St.le_slots (by simp only [Ck,Cm,Ac,Bj,Au,Nat.reduceEqDiff,reduceIte,Nat.reduceLT,Nat.reduceLeDiff];simp (disch:=omega) [Au,Bc,Cq,Aa] <;> (repeat' apply And.intro) <;> omega) (by simp (disch:=omega) [Dj,Eo,Dg,Bh,Au,Bc,Cq,Aa]) (by simp [Dk]))
  ·have hst:Hs x=91 :: (Lib.itoa x.n ++ [93]):=by unfold Hs;rw [if_pos hpt]
   have hb:0≤x.n∧x.n≤1000000:=by unfold Fs at hox;rw [if_pos hpt] at hox;exact hox.2
   have hdw:=Jnc hb.1 hb.2
   by_cases hne:Hh (p.take i)=[]
   ·rw [hne,Vf]
    rw [hne,show bstr []=[] from rfl,List.nil_append] at hrow
    rw [hne,List.length_nil,Nat.zero_add] at hlen
    (refine Ax hm _ _ _ ?_;simp only [Ch,Ah,Bn,Bs,Ci,Ab,Bd,A0,Bb,Dd,Cs,Be,Ce,Ai,B8,D5,Gn,C2,Cp,H2,Cc,Bp,Bg,Br,Av,Aq,D1,Eh,B7,D7,Cv,Gd,C5,Ic,Da,Ej,G7,H5,Cr,Gj,Jw,Gl,Jc,Fj,Ag,Ae,A3,Cd,Bv,Bm,Bx,Bw,A5,B3,Bi,Ay,A4,Ar,B1,Cw,Cu,Hw,E6,I5,H3,Cj,Ad,Ac,Bl,Bf,A6,List.map_cons,List.map_nil,List.length_cons,List.length_nil,List.nil_append,List.append_nil,List.flatMap_cons,List.flatMap_nil,List.take_succ_cons,List.take_zero,List.take_nil,List.drop_succ_cons,List.drop_nil,List.getElem?_cons_zero,List.getElem?_cons_succ,decide_eq_true_eq,ne_eq,not_false_eq_true,Nat.reduceLT,Nat.reduceLeDiff,Nat.reduceEqDiff,Nat.reduceAdd,true_and,Ca,Bu,↓reduceIte,reduceCtorEq,Int.toNat_natCast,Int.natCast_nonneg,Nat.zero_add,Bool.true_and,Bool.or_false,Om,Mj,O9,Nr,Kl,Lm,Kk,Jq,Na,Lk,hc,hg,hpt])
    (repeat' (first | (refine iteI (fun h=>?_) (fun h=>?_))|(refine B2 (by first | omega | (simp (disch:=omega) only [Aa,Ak,Aj] at *;omega)) ?_;intro b hb)|(refine And.intro (by first | omega | (simp (disch:=omega) only [Aa,Ak,Aj] at *;omega)) ?_)|((first | (refine A9 hm (by rfl) (by kernel_rfl) ?_)|(refine Det.use (Yo x.n (by omega) (by omega)) ?_)|(refine Det.useQ (Yo x.n (by omega) (by omega)) ?_)|(refine Det.use (Ju (91 :: (Lib.itoa x.n ++ [93])) (by rw [← hst];omega)) ?_)|(refine Det.useQ (Ju (91 :: (Lib.itoa x.n ++ [93])) (by rw [← hst];omega)) ?_));simp only [Ah,Ab,Bo,Bd,A0,Bb,Cs,Be,Az,Ce,Cb,Hc,Ba,B8,Cc,Av,F4,B0,Aq,Hb,R8,Ag,Ae,A3,Hi,Cd,Bv,Bm,Bx,Bw,Ew,Bq,Hv,Dn,G4,Gc,Df,Eb,Gu,Hm,K8,E4,E2,Fg,Hr,Fm,G9,Gv,Jd,Bk,I4,Dt,Hz,Gx,M9,Fh,Fx,F2,Ff,Fe,Ji,Dy,C1,B3,E3,Dl,Il,Fc,F9,Ek,Bi,Ay,Ev,Et,Gw,Ey,Ee,Ez,Ho,Hp,Eu,Ed,Ar,Hg,Cj,Ie,Ad,Ac,Cg,Bf,A6,Ea,List.map_cons,List.map_nil,List.length_cons,List.length_nil,List.cons_append,List.nil_append,List.append_nil,List.flatMap_cons,List.flatMap_nil,List.contains_cons,List.contains_nil,decide_eq_true_eq,ne_eq,not_false_eq_true,Nat.reduceLT,Nat.reduceLeDiff,Nat.reduceEqDiff,Nat.reduceAdd,Nat.reduceBEq,Ca,Bu,↓reduceIte,reduceCtorEq,Nat.zero_add,Bool.false_eq_true,Bool.or_false,Bool.or_true,beq_self_eq_true,hw])|(exact True.intro)|(exfalso;omega)))
    refine ⟨i+1,by omega,by omega,?_⟩
    rw [Ph hnn,hrow,hlen,hst]
    exact (St.le_slots (by simp only [Ck,Cm,Ac,Bj,Au,Nat.reduceEqDiff,reduceIte,Nat.reduceLT,Nat.reduceLeDiff];simp (disch:=omega) [Au,Bc,Cq,Aa] <;> (repeat' apply And.intro) <;> omega) (by simp (disch:=omega) [Dj,Eo,Dg,Bh,Au,Bc,Cq,Aa]) (by simp [Dk]))
   ·rw [Ph hne]
    (refine Ax hm _ _ _ ?_;simp only [Ch,Ah,Bn,Bs,Ci,Ab,Bd,A0,Bb,Dd,Cs,Be,Ce,Ai,B8,D5,Gn,C2,Cp,H2,Cc,Bp,Bg,Br,Av,Aq,D1,Eh,B7,D7,Cv,Gd,C5,Ic,Da,Ej,G7,H5,Cr,Gj,Jw,Gl,Jc,Fj,Ag,Ae,A3,Cd,Bv,Bm,Bx,Bw,A5,B3,Bi,Ay,A4,Ar,B1,Cw,Cu,Hw,Fv,E6,I5,H3,F5,Cj,Ad,Ac,Bl,Bf,A6,List.map_cons,List.map_nil,List.length_cons,List.length_nil,List.nil_append,List.append_nil,List.flatMap_cons,List.flatMap_nil,List.take_succ_cons,List.take_zero,List.take_nil,List.drop_succ_cons,List.drop_nil,List.getElem?_cons_zero,List.getElem?_cons_succ,decide_eq_true_eq,ne_eq,not_false_eq_true,Nat.reduceLT,Nat.reduceLeDiff,Nat.reduceEqDiff,Nat.reduceAdd,true_and,Ca,Bu,↓reduceIte,reduceCtorEq,Int.toNat_natCast,Int.natCast_nonneg,Nat.zero_add,Bool.true_and,Bool.or_false,Om,Mj,O9,Nr,Kl,Lm,Kk,Jq,Na,Lk,hc,hg,hpt])
    (repeat' (first | (refine iteI (fun h=>?_) (fun h=>?_))|(refine B2 (by first | omega | (simp (disch:=omega) only [Aa,Ak,Aj] at *;omega)) ?_;intro b hb)|(refine And.intro (by first | omega | (simp (disch:=omega) only [Aa,Ak,Aj] at *;omega)) ?_)|((first | (refine A9 hm (by rfl) (by kernel_rfl) ?_)|(refine Det.use (Yo x.n (by omega) (by omega)) ?_)|(refine Det.useQ (Yo x.n (by omega) (by omega)) ?_)|(refine Det.use (Ir (91 :: (Lib.itoa x.n ++ [93])) _ _ (Mb _) (by omega) (by rw [← hst];omega)) ?_)|(refine Det.useQ (Ir (91 :: (Lib.itoa x.n ++ [93])) _ _ (Mb _) (by omega) (by rw [← hst];omega)) ?_));simp only [Ah,Ab,Bo,Bd,A0,Bb,Cs,Be,Az,Ce,Cb,Hc,Ba,B8,Cc,Av,F4,B0,Aq,Hb,R8,Ag,Ae,A3,Hi,Cd,Bv,Bm,Bx,Bw,Ew,Bq,Hv,Dn,G4,Fw,Df,Eb,Gu,G5,E4,E2,Fg,Hr,Fm,Fi,Gv,Ih,Dp,Bk,I4,Dt,Hz,Hx,Fh,Fx,F2,Ff,Fe,Ji,Dy,C1,B3,E3,Dl,Il,Fc,F9,Ek,Bi,Ay,Ev,Et,Gw,Ey,Ee,Ez,Hk,Ho,Hp,Eu,Ed,Ar,Hg,Iw,Cj,Ie,Jr,Ad,Ac,Cg,Bf,A6,Ea,List.map_cons,List.map_nil,List.length_cons,List.length_nil,List.cons_append,List.nil_append,List.append_nil,List.flatMap_cons,List.flatMap_nil,List.contains_cons,List.contains_nil,Nat.reduceLT,Nat.reduceLeDiff,Nat.reduceEqDiff,Nat.reduceAdd,Nat.reduceBEq,and_true,Ca,Bu,↓reduceIte,reduceCtorEq,Nat.zero_add,Bool.false_eq_true,Bool.and_true,Bool.or_false,Bool.or_true,beq_self_eq_true,hw])|(exact True.intro)|(exfalso;omega)))
    refine ⟨i+1,by omega,by omega,?_⟩
    rw [Ph hnn,hrow,hlen,hst]
    exact (St.le_slots (by simp only [Ck,Cm,Ac,Bj,Au,Nat.reduceEqDiff,reduceIte,Nat.reduceLT,Nat.reduceLeDiff];simp (disch:=omega) [Au,Bc,Cq,Aa] <;> (repeat' apply And.intro) <;> omega) (by simp (disch:=omega) [Dj,Eo,Dg,Bh,Au,Bc,Cq,Aa]) (by simp [Dk]))
end Go.LX
set_option maxRecDepth 100000
set_option maxHeartbeats 2000000
namespace Go.LX
open Go Go.RowKit Go.Proofs
attribute [local irreducible] Bz SWP Gm
theorem Jlr (p:List Step) (hp:p.length≤100) (hok:∀ x∈p,Fs x) (hn:∀ x∈p,x.name.length≤1000):Det cx 21 [.p (.sl (Gp p))] [] (.p (.str (Rt p))) []:=by
 have hT:=Jc7 hok hn
 cases p with
 | nil =>
  (refine Bz.of_code (X:=cx) false [] (by simp) Tryz.func21 (by kernel_rfl) rfl (by simp only [List.length_cons,List.length_nil,Tryz.ntmps21];decide) (by simp) ?_;refine Ax hm _ _ _ ?_;simp only [Tryz.ntmps21,Tryz.results21,Ah,Bn,Bs,Ab,Bd,A0,Dq,Bb,Ep,Be,Az,Ce,C0,Cb,Hc,Ba,Ai,B8,Em,Cp,Eg,Cc,Br,C6,D6,D3,D4,Av,B0,Aq,H0,D9,D0,B7,D7,Ag,Ae,A3,Cd,Bv,Bm,Bx,Bw,A5,B3,Bi,Ay,A4,Cj,Ad,Ac,argW,List.map_cons,List.map_nil,List.getD_cons_zero,List.getD_cons_succ,List.append_nil,List.flatMap_cons,List.flatMap_nil,beq_iff_eq,Nat.reduceLT,Nat.reduceEqDiff,Int.reduceToNat,Int.reduceLE,true_and,Ca,Bu,↓reduceIte,reduceCtorEq,Bool.false_eq_true,Bool.true_and,Bool.or_true,I9,Kl])
  (repeat' (first | (refine iteI (fun h=>?_) (fun h=>?_))|(refine B2 (by first | omega | (simp (disch:=omega) only [Aa,Ak,Aj] at *;omega)) ?_;intro b hb)|(refine And.intro (by first | omega | (simp (disch:=omega) only [Aa,Ak,Aj] at *;omega)) ?_)|((first | (refine A9 hm (by rfl) (by kernel_rfl) ?_)|(refine Det.use (Zw [] hp hok hn) ?_)|(refine Det.useQ (Zw [] hp hok hn) ?_));simp only [Cn,Ab,Cf,Bd,A0,Bb,Cs,Be,Az,Hc,Ai,B8,F4,B0,Aq,R8,Ag,Ae,A3,Bq,B3,Bt,Cy,Cz,A7,A8,B9,Aw,Ao,Al,B5,B6,Af,Am,Ap,Cl,A1,A2,Ad,Ac,List.length_cons,List.length_nil,List.cons_append,List.nil_append,Nat.reduceLT,and_true,Ca,↓reduceIte,Nat.zero_add,L.p.injEq,PV.str.injEq,Bool.and_true,Bool.or_false])|(exact True.intro)|(exfalso;omega)))
  ·rfl
  ·exact absurd rfl (by assumption)
 | cons x p =>
  have hg:(Gp (x :: p))[0]? = some [.bool x.part,.str x.name,.int .i64 x.n]:=rfl
  rw [List.length_cons] at hT
  unfold Rt
  cases hpt:x.part
  ·skip
   (refine Bz.of_code (X:=cx) false [] (by simp) Tryz.func21 (by kernel_rfl) rfl (by simp only [List.length_cons,List.length_nil,Tryz.ntmps21];decide) (by simp) ?_;refine Ax hm _ _ _ ?_;simp only [Tryz.ntmps21,Tryz.results21,Ch,Ah,Bn,Bs,Ab,Bd,A0,Dq,Bb,Ep,Be,Az,Ce,C0,Cb,Hc,Ba,Ai,B8,Em,D5,C2,Cp,Eg,Cc,Bg,Br,C6,D6,D3,D4,Av,B0,Aq,H0,D9,D0,Eh,B7,D7,He,Cv,Gi,C5,C4,Ag,Ae,A3,Cd,Bv,Bm,Bx,Bw,A5,B3,Bi,Ay,A4,Cj,Ad,Ac,argW,List.map_cons,List.map_nil,List.getD_cons_zero,List.getD_cons_succ,List.length_cons,List.length_nil,List.append_nil,List.flatMap_cons,List.flatMap_nil,List.drop_zero,List.getElem?_cons_zero,beq_iff_eq,Nat.reduceLT,Nat.reduceLeDiff,Nat.reduceEqDiff,Nat.reduceAdd,Int.reduceToNat,Int.reduceLE,true_and,Ca,Bu,↓reduceIte,reduceCtorEq,Nat.zero_add,Bool.false_eq_true,Bool.true_and,Bool.or_true,O9,Nr,I9,Kl,Jq,Dr,hg,hpt])
   (repeat' (first | (refine iteI (fun h=>?_) (fun h=>?_))|(refine B2 (by first | omega | (simp (disch:=omega) only [Aa,Ak,Aj] at *;omega)) ?_;intro b hb)|(refine And.intro (by first | omega | (simp (disch:=omega) only [Aa,Ak,Aj] at *;omega)) ?_)|((first | (refine A9 hm (by rfl) (by kernel_rfl) ?_)|(refine Det.use (Zw (x :: p) hp hok hn) ?_)|(refine Det.useQ (Zw (x :: p) hp hok hn) ?_));simp only [Cn,Ab,Cf,Bd,A0,Bb,Cs,Be,Az,Hc,Ai,B8,F4,B0,Aq,R8,Ag,Ae,A3,Bq,B3,Bt,Cy,Cz,A7,A8,B9,Aw,Ao,Al,B5,B6,Af,Am,Ap,Cl,A1,A2,Ad,Ac,List.length_cons,List.length_nil,List.cons_append,List.nil_append,Nat.reduceLT,and_true,Ca,↓reduceIte,Nat.zero_add,L.p.injEq,PV.str.injEq,Bool.and_true,Bool.or_false,and_self])|(exact True.intro)|(exfalso;omega)))
  ·(refine Bz.of_code (X:=cx) false [] (by simp) Tryz.func21 (by kernel_rfl) rfl (by simp only [List.length_cons,List.length_nil,Tryz.ntmps21];decide) (by simp) ?_;refine Ax hm _ _ _ ?_;simp only [Tryz.ntmps21,Tryz.results21,Ah,Bn,Bs,Ab,Bd,A0,Dq,Bb,Ep,Be,Az,Ce,C0,Cb,Hc,Ba,Ai,B8,Em,D5,C2,Cp,Eg,Cc,Bg,Br,C6,D6,D3,D4,Av,B0,Aq,H0,D9,D0,Eh,B7,D7,He,Cv,Gi,C5,C4,Ag,Ae,A3,Cd,Bv,Bm,Bx,Bw,A5,B3,Bi,Ay,A4,Cj,Ad,Ac,argW,List.map_cons,List.map_nil,List.getD_cons_zero,List.getD_cons_succ,List.length_cons,List.length_nil,List.append_nil,List.flatMap_cons,List.flatMap_nil,List.drop_zero,List.getElem?_cons_zero,beq_iff_eq,Nat.reduceLT,Nat.reduceLeDiff,Nat.reduceEqDiff,Nat.reduceAdd,Int.reduceToNat,Int.reduceLE,true_and,Ca,Bu,↓reduceIte,reduceCtorEq,Nat.zero_add,Bool.false_eq_true,Bool.true_and,Bool.or_true,O9,Nr,I9,Kl,Jq,Dr,hg,hpt])
   (repeat' (first | (refine iteI (fun h=>?_) (fun h=>?_))|(refine B2 (by first | omega | (simp (disch:=omega) only [Aa,Ak,Aj] at *;omega)) ?_;intro b hb)|(refine And.intro (by first | omega | (simp (disch:=omega) only [Aa,Ak,Aj] at *;omega)) ?_)|((first | (refine A9 hm (by rfl) (by kernel_rfl) ?_)|(refine Det.use (Zw (x :: p) hp hok hn) ?_)|(refine Det.useQ (Zw (x :: p) hp hok hn) ?_));simp only [Cn,Ab,Cf,Bd,A0,Bb,Cs,Be,Az,Hc,Ai,B8,F4,B0,Aq,R8,Ag,Ae,A3,Bq,B3,Bt,Cy,Cz,A7,A8,B9,Aw,Ao,Al,B5,B6,Af,Am,Ap,Cl,A1,A2,Ad,Ac,List.length_cons,List.length_nil,List.cons_append,List.nil_append,Nat.reduceLT,and_true,Ca,↓reduceIte,Nat.zero_add,Bool.and_true,Bool.or_false,and_self])|(exact True.intro)|(exfalso;omega)))
   rw [List.length_cons] at hp
   omega
end Go.LX
set_option maxRecDepth 100000
set_option maxHeartbeats 2000000
namespace Go.LX
open Go Go.RowKit Go.Proofs
attribute [local irreducible] Bz SWP Gm
def isDg (c:Nat):Prop:=48≤c∧c≤57
instance (c:Nat):Decidable (isDg c):=inferInstanceAs (Decidable (_∧_))
def dgR:Nat→List UInt8→List UInt8
 | k+1,c :: r=>if isDg c.toNat then c :: dgR k r else []
 | _,_=>[]
def valD (l:List UInt8):Nat:=l.foldl (fun a c=>a * 10+(c.toNat - 48)) 0
theorem Jkb (l:List UInt8) (c:UInt8):valD (l ++ [c])=valD l * 10+(c.toNat - 48):=by simp [valD]
theorem Jhi:∀ (k:Nat) (l:List UInt8),∀ c∈dgR k l,isDg c.toNat
 | 0,l=>by simp [dgR]
 | k+1,[]=>by simp [dgR]
 | k+1,c :: r=>by
  intro d hd
  rw [dgR] at hd
  split at hd
  ·rcases List.mem_cons.1 hd with rfl | hd
   ·assumption
   ·exact Jhi k r d hd
  ·cases hd
theorem Jh7:∀ (k:Nat) (l:List UInt8),(dgR k l).length≤k∧(dgR k l).length≤l.length
 | 0,l=>by simp [dgR]
 | k+1,[]=>by simp [dgR]
 | k+1,c :: r=>by
  rw [dgR]
  split
  ·have:=Jh7 k r
   simp;omega
  ·simp
theorem Jh4:∀ (k:Nat) (l:List UInt8),dgR k l=l.take (dgR k l).length
 | 0,l=>by simp [dgR]
 | k+1,[]=>by simp [dgR]
 | k+1,c :: r=>by
  rw [dgR]
  split
  ·rw [List.length_cons,List.take_succ_cons,← Jh4 k r]
  ·simp
end Go.LX
