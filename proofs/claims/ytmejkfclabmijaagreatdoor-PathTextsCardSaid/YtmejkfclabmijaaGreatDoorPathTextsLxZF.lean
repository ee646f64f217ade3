/- Values, the document's answer: without a part, with one. -/
import Derived.Test.YtmejkfclabmijaaGreatDoorPathTextsLxZE
import Derived.Test.YtmejkfclabmijaaGreatDoorPathTextsLxZD
import Derived.Test.YtmejkfclabmijaaGreatDoorPathTextsLxP
import Derived.Test.YtmejkfclabmijaaGreatDoorPathTextsLxZB
set_option linter.unusedSimpArgs false
set_option linter.unusedVariables false
set_option linter.unusedSectionVars false
set_option linter.unnecessarySimpa false
set_option maxRecDepth 100000
set_option maxHeartbeats 2000000
namespace Go.LX
open Go Go.RowKit Go.Proofs
attribute [local irreducible] B2 SWP Hb
theorem Jja (nm:List UInt8) (s:List UInt8) (g:Bool) (e:Int) (kids:Forest) (name:List UInt8) (hv:kids.enc.length≤900000):Det cx 104 [.p (.sl (valL ((Tree.mk 6 s g e kids).enc nm))),.p (.str name)] [] (.p (.sl (valL ((Tree.mk 6 [] false 0 (Ej (Fg name kids.list))).enc [])))) []:=by
 have hll:=Forest.len_le kids
 have hkl:=Forest.list_len kids
 skip
 (refine B2.of_code (X:=cx) false [] (by simp) Tryz.func104 (by kernel_rfl) rfl (by simp only [List.length_cons,List.length_nil,Tryz.ntmps104];decide) (by simp) ?_;refine Ax hm _ _ _ ?_;simp only [Tryz.ntmps104,Tryz.results104,Ah,Bm,Ab,Bd,A1,Bc,Bf,A0,Ch,E4,A9,Aj,Cg,Ag,Ae,A3,Cf,Bv,Bi,Bz,Bx,A4,B6,Bh,Az,A5,Cl,Ad,Ac,argW,List.map_cons,List.map_nil,List.append_nil,List.flatMap_cons,List.flatMap_nil,Nat.reduceLT,Nat.reduceEqDiff,Cc,Bw,↓reduceIte,reduceCtorEq,Nat.zero_add])
 (repeat' (first | (refine iteI (fun h=>?_) (fun h=>?_))|(refine B1 (by first | omega | (simp (disch:=omega) only [Aa,Ak,Ai] at *;omega)) ?_;intro b hb)|(refine And.intro (by first | omega | (simp (disch:=omega) only [Aa,Ak,Ai] at *;omega)) ?_)|((first | (refine Ba hm (by rfl) (by kernel_rfl) ?_)|(refine Det.use (Jc4 nm s g e kids (by omega)) ?_)|(refine Det.useQ (Jc4 nm s g e kids (by omega)) ?_)|(refine Det.use (Jeo nm 6 s g e kids (by omega)) ?_)|(refine Det.useQ (Jeo nm 6 s g e kids (by omega)) ?_));simp only [Ah,Bm,Ce,He,Ab,Bd,A1,Bc,Ct,Bf,A0,Ch,Ca,A9,Aj,Df,Cg,Bo,Cu,Ag,Ae,A3,Cf,Bv,Bi,Bz,Bx,A4,Bp,B6,Bh,Az,A5,Ht,Ji,Il,Dg,Jg,Gp,Hu,B4,C4,Fy,Ez,Ga,Cl,Ad,Ac,Bn,Bg,Bb,List.map_cons,List.map_nil,List.length_cons,List.length_nil,List.append_nil,List.flatMap_cons,List.flatMap_nil,Nat.reduceLT,Nat.reduceLeDiff,Nat.reduceEqDiff,Nat.reduceMul,true_and,Cc,Bw,↓reduceIte,reduceCtorEq,Nat.zero_add,Bool.true_and,W6,Ph,Lx,Ln])|(exact True.intro)|(exfalso;omega)))
 refine SWP.of_le (Jh [(14,34),(15,41)] _ (by simp)) ?_
 simp only [Bu,Fn,Di,B6,D2,Ey,Af,C3,Gj,Fl,D8,Dr,Du,Cq,Bg,Bb,Nat.reduceEqDiff,↓reduceIte]
 refine SWP.loop (fun k:Nat=>⟨Fp 45 [(0,.p (.sl (valL ((Tree.mk 6 s g e kids).enc nm)))),(1,.p (.str name)),(5,.p (.sl (Gd kids.list))),(6,.p (.sl (E3 kids.list))),(7,.own 34 0 (Fg name (kids.list.take k)).length),(8,.own 41 0 (Fg name (kids.list.take k)).length),(9,.p (.int .i64 k))],[(41,.row 34 1 (E3 (Fg name (kids.list.take k)))),(34,.row 9 1 (Gd (Fg name (kids.list.take k))))]⟩) (fun k=>k≤kids.list.length) (fun k=>kids.list.length - k) 0 (by simp only [List.take_zero,Fg,Jqr,Jre,List.length_nil];exact (St.le_slots (by simp only [Cd,Ck,Ac,Be,Aq,Nat.reduceEqDiff,reduceIte,Nat.reduceLT,Nat.reduceLeDiff];simp (disch:=omega) [Aq,A8,Cm,Aa] <;> (repeat' apply And.intro) <;> omega) (by simp (disch:=omega) [Dc,Ee,C9,Bj,Aq,A8,Cm,Aa]) (by simp [De]))) (Nat.zero_le _) ?_
 intro k hk
 have hkk:=Jcz name (kids.list.take k)
 rw [List.length_take] at hkk
 by_cases hlt:¬ k<kids.list.length
 ·have c1:((k:Int)<(kids.list.length:Int))=False:=eq_false (by omega)
  have tk:kids.list.take k=kids.list:=List.take_of_length_le (by omega)
  rw [tk]
  have tn:(Gd (Fg name kids.list)).take (Fg name kids.list).length=Gd (Fg name kids.list):=List.take_of_length_le (by rw [Gc];omega)
  have tp:(E3 (Fg name kids.list)).take (Fg name kids.list).length=E3 (Fg name kids.list):=List.take_of_length_le (by rw [Fo];omega)
  have ln:((Fg name kids.list).length≤(Gd (Fg name kids.list)).length)=True:=eq_true (by rw [Gc];omega)
  have lp:((Fg name kids.list).length≤(E3 (Fg name kids.list)).length)=True:=eq_true (by rw [Fo];omega)
  have ll:((Fg name kids.list).length≤(Fg name kids.list).length)=True:=eq_true (Nat.le_refl _)
  have hkle:=Oh name kids
  have hgn:=c1
  have hgp:=c1
  have hne:=c1
  have w1:=c1
  have e1:=c1
  have e2:=c1
  have e3:=c1
  skip
  (refine Ax hm _ _ _ ?_;simp only [Ah,Bm,Br,Eh,Ab,Ci,B0,Bd,A1,Bc,Bf,Ch,A9,B8,Dw,Cg,Bq,Au,Ar,Dm,Ds,D4,Ag,Ae,E6,Fu,En,F4,Cf,Bv,Bi,Bz,Bx,A4,B6,Bh,Az,A5,Aw,Dx,Dk,N8,I9,G9,Cl,Ad,Ac,C6,Bg,Bb,Dy,List.map_cons,List.map_nil,List.append_nil,List.flatMap_cons,List.flatMap_nil,List.drop_zero,decide_eq_true_eq,Nat.reduceLT,Nat.reduceEqDiff,Cc,Bw,↓reduceIte,reduceCtorEq,Nat.zero_add,Bool.or_false,M4,Gc,c1,tn,tp,lp,ll])
  (repeat' (first | (refine iteI (fun h=>?_) (fun h=>?_))|(refine B1 (by first | omega | (simp (disch:=omega) only [Aa,Ak,Ai] at *;omega)) ?_;intro b hb)|(refine And.intro (by first | omega | (simp (disch:=omega) only [Aa,Ak,Ai] at *;omega)) ?_)|((first | (refine Ba hm (by rfl) (by kernel_rfl) ?_)|(refine Det.use (Ua (Fg name kids.list) (by omega)) ?_)|(refine Det.useQ (Ua (Fg name kids.list) (by omega)) ?_));simp only [Cn,Ab,Bd,A1,Bc,Ct,Bf,Aj,Ag,Ae,A3,Bp,B6,Bs,Cs,Cr,A6,A7,B9,Av,Ap,Al,B7,B5,Af,Am,Ao,Co,Ay,A2,Ad,Ac,Nat.reduceLT,↓reduceIte,and_self])|(exact True.intro)|(exfalso;omega)))
 ·have hlt:=Decidable.not_not.1 hlt
  have c1:((k:Int)<(kids.list.length:Int))=True:=eq_true (by omega)
  obtain ⟨p,hp⟩:∃ p,kids.list[k]? = some p:=⟨_,List.getElem?_eq_getElem hlt⟩
  have hgn:(Gd kids.list)[k]? = some [.str p.1]:=by simp [Gd,hp]
  have hgp:(E3 kids.list)[k]? = some [.sl (valL (p.2.enc []))]:=by simp [E3,hp]
  have w1:=wi1 (i:=k) (by omega)
  have tn:=c1
  have tp:=c1
  have lp:=c1
  by_cases hn:p.1=name
  ·have hne:(p.1=name)=True:=eq_true hn
   have ln:=c1
   have ll:=c1
   have e1:=c1
   have e2:=c1
   have e3:=c1
   (refine Ax hm _ _ _ ?_;simp only [Cb,Ah,Bm,Br,Ce,Ab,Bk,Bd,A1,Bc,Bf,A0,Ca,A9,Aj,B8,Ed,Cv,Dw,Bl,Bq,Au,Ep,Bt,Ar,E8,Dm,Qv,Ds,D4,Eo,Cj,Ei,G8,C5,Dd,Ad,Ac,Dy,List.map_cons,List.map_nil,List.length_cons,List.length_nil,List.getElem?_cons_zero,decide_eq_true_eq,beq_eq_false_iff_ne,Bool.not_eq_eq_eq_not,ne_eq,not_true_eq_false,Nat.reduceLT,Nat.reduceEqDiff,true_and,Cc,↓reduceIte,reduceCtorEq,Int.toNat_natCast,Int.natCast_nonneg,Nat.zero_add,Bool.not_true,Bool.true_and,Bool.or_false,Bool.or_true,L5,Kg,M4,Ln,Gc,c1,hgn,hne,w1])
   (repeat' (first | (refine And.intro (by first | omega | (simp;done)|(simp;omega)) ?_)))
   refine ⟨k+1,hlt,by omega,?_⟩
   rw [Wy hp hn]
   exact (St.le_slots (by simp only [Cd,Ck,Ac,Be,Aq,Nat.reduceEqDiff,reduceIte,Nat.reduceLT,Nat.reduceLeDiff];simp (disch:=omega) [Aq,A8,Cm,Aa] <;> (repeat' apply And.intro) <;> omega) (by simp (disch:=omega) [Dc,Ee,C9,Bj,Aq,A8,Cm,Aa]) (by simp [De]))
  ·have hne:(p.1=name)=False:=eq_false hn
   have e1:(Gd (Fg name (kids.list.take k))).length=(Fg name (kids.list.take k)).length:=Gc _
   have e2:(E3 (Fg name (kids.list.take k))).length=(Fg name (kids.list.take k)).length:=Fo _
   have e3:=c1
   have ln:=c1
   have ll:=c1
   have t1:E3 (Fg name (kids.list.take (k+1)))=E3 (Fg name (kids.list.take k)) ++ [[.sl (valL (p.2.enc []))]]:=by rw [L9 hp hn,Jf5];rfl
   have t2:Gd (Fg name (kids.list.take (k+1)))=Gd (Fg name (kids.list.take k)) ++ [[.str p.1]]:=by rw [L9 hp hn,Jfy];rfl
   have t3:(Fg name (kids.list.take (k+1))).length=(Fg name (kids.list.take k)).length+1:=by rw [L9 hp hn,List.length_append];rfl
   (refine Ax hm _ _ _ ?_;simp only [Cb,Ah,Bm,Br,Ce,Ab,Bk,Bd,A1,Bc,Ct,Bf,A0,Ca,A9,Aj,B8,Ed,Cv,Dw,Df,F8,Bo,Bl,Bq,Au,Ep,Bt,Ar,E8,Dm,Qv,Ds,D4,Eo,Cj,Ei,G8,C5,Dd,Cu,G6,Lh,Mj,Ag,Ae,A3,Ht,Ji,Il,Dg,Jg,Gp,Gr,Gs,Gu,Hu,Ho,Hc,F5,G5,E1,Gg,Kz,F2,Jk,Aw,B4,C4,Fy,Ez,G7,Jr,Ga,C7,El,Cz,F1,Ad,Ac,Bn,Bg,Bb,Dy,List.map_cons,List.map_nil,List.length_cons,List.length_nil,List.take_succ_cons,List.take_nil,List.drop_zero,List.getElem?_cons_zero,decide_eq_true_eq,beq_eq_false_iff_ne,Bool.not_eq_eq_eq_not,ne_eq,not_false_eq_true,Nat.reduceLT,Nat.reduceLeDiff,Nat.reduceEqDiff,Nat.reduceMul,true_and,Cc,↓reduceIte,reduceCtorEq,Int.toNat_natCast,Int.natCast_nonneg,Nat.zero_add,Bool.not_true,Bool.true_and,Bool.and_true,Bool.or_false,Bool.or_true,beq_self_eq_true,L5,Kg,W6,Jfr,Q1,Ng,Ph,Ul,Lx,M4,Ln,Gc,c1,hgn,hgp,hne,w1,e1,e2])
   (repeat' (first | (refine And.intro (by first | omega | (simp;done)|(simp;omega)) ?_)))
   refine ⟨k+1,hlt,by omega,?_⟩
   rw [t1,t2,t3]
   exact (St.le_slots (by simp only [Cd,Ck,Ac,Be,Aq,Nat.reduceEqDiff,reduceIte,Nat.reduceLT,Nat.reduceLeDiff];simp (disch:=omega) [Aq,A8,Cm,Aa] <;> (repeat' apply And.intro) <;> omega) (by simp (disch:=omega) [Dc,Ee,C9,Bj,Aq,A8,Cm,Aa]) (by simp [De]))
theorem Jri (nm:List UInt8) (s:List UInt8) (g:Bool) (e:Int) (kids:Forest) (name:List UInt8) (t:Tree) (hv:kids.enc.length≤400000) (ht:(t.enc []).length≤400000) (hr:Rise (Fg name kids.list)) (hs:∀ p∈kids.list,p.1.length≤1000000) (hvs:∀ p∈kids.list,valid p.1=true) (hn:name.length≤1000000) (hvn:valid name=true):Det cx 45 [.p (.sl (valL ((Tree.mk 6 s g e kids).enc nm))),.p (.str name),.p (.sl (valL (t.enc [])))] [] (.p (.sl (valL ((Tree.mk 6 [] false 0 (Ej (putL name t (Fg name kids.list)))).enc [])))) []:=by
 have hw:=Jja nm s g e kids name (by omega)
 have hkl:=Oh name kids
 have hfl:=Forest.len_le (Ej (Fg name kids.list))
 rw [Kk] at hfl
 have hKm:∀ p∈Fg name kids.list,p∈kids.list∧p.1≠name:=fun p hp=>Jai.1 hp
 generalize hK:Fg name kids.list=K at *
 have hp:=Jmm [] 6 [] false 0 (Ej K) (by omega)
 have hnm:=Jl8 [] [] false 0 (Ej K) (by omega)
 rw [Sc,Kk] at hp hnm
 have e1:Gd K ++ [[PV.str name]]=Gd (K ++ [(name,t)]):=by simp [Gd]
 have e2:E3 K ++ [[PV.sl (valL (t.enc []))]]=E3 (K ++ [(name,t)]):=by simp [E3]
 have hio:Xv (K ++ [(name,t)])=putL name t K:=Jml hr fun p hp=>(hKm p hp).2
 have hok:Y1 (K ++ [(name,t)])=true:=by
  unfold Y1
  rw [decide_eq_true_eq]
  refine ⟨fun p hp=>?_,?_⟩
  ·rcases List.mem_append.1 hp with hp | hp
   ·exact hvs p (hKm p hp).1
   ·rw [List.mem_singleton] at hp;subst hp;exact hvn
  ·have:=(Oz (K ++ [(name,t)])).map (·.1)
   rw [hio] at this
   exact this.nodup_iff.1 (Wb hr fun p hp=>(hKm p hp).2).nodup
 have hO:=Jj9 (K ++ [(name,t)]) (by
  have:=Sp (Oz (K ++ [(name,t)]))
  rw [hio,T8] at this
  omega) (fun p hp=>by
  rcases List.mem_append.1 hp with hp | hp
  ·exact hs p (hKm p hp).1
  ·rw [List.mem_singleton] at hp;subst hp;exact hn)
 unfold objR at hO
 rw [if_pos hok,hio] at hO
 have l1:(K.length+1≤(Gd (K ++ [(name,t)])).length)=True:=eq_true (by rw [Gc];simp)
 have l2:(K.length+1≤(E3 (K ++ [(name,t)])).length)=True:=eq_true (by rw [Fo];simp)
 have t1:(Gd (K ++ [(name,t)])).take (K.length+1)=Gd (K ++ [(name,t)]):=List.take_of_length_le (by rw [Gc];simp)
 have t2:(E3 (K ++ [(name,t)])).take (K.length+1)=E3 (K ++ [(name,t)]):=List.take_of_length_le (by rw [Fo];simp)
 have n1:(Gd K).length=K.length:=Gc _
 have n2:(E3 K).length=K.length:=Fo _
 skip
 (refine B2.of_code (X:=cx) false [] (by simp) Tryz.func45 (by kernel_rfl) rfl (by simp only [List.length_cons,List.length_nil,Tryz.ntmps45];decide) (by simp) ?_;refine Ax hm _ _ _ ?_;simp only [Tryz.ntmps45,Tryz.results45,Ah,Bm,Ab,Bd,A1,Bc,Bf,A0,Ch,E4,A9,Aj,Cg,Ag,Ae,A3,Cf,Bv,Bi,Bz,Bx,A4,B6,Bh,Az,A5,Cl,Ad,Ac,argW,List.map_cons,List.map_nil,List.append_nil,List.flatMap_cons,List.flatMap_nil,Nat.reduceLT,Nat.reduceEqDiff,Nat.reduceAdd,Cc,Bw,↓reduceIte,reduceCtorEq,Nat.zero_add])
 (repeat' (first | (refine iteI (fun h=>?_) (fun h=>?_))|(refine B1 (by first | omega | (simp (disch:=omega) only [Aa,Ak,Ai] at *;omega)) ?_;intro b hb)|(refine And.intro (by first | omega | (simp (disch:=omega) only [Aa,Ak,Ai] at *;omega)) ?_)|((first | (refine Ba hm (by rfl) (by kernel_rfl) ?_)|(refine Det.use (hw) ?_)|(refine Det.useQ (hw) ?_)|(refine Er.use (hw) ?_)|(refine Dp.use (hw) ?_)|(refine Det.use (hp) ?_)|(refine Det.useQ (hp) ?_)|(refine Er.use (hp) ?_)|(refine Dp.use (hp) ?_)|(refine Det.use (hnm) ?_)|(refine Det.useQ (hnm) ?_)|(refine Er.use (hnm) ?_)|(refine Dp.use (hnm) ?_)|(refine Det.use (hO) ?_)|(refine Det.useQ (hO) ?_)|(refine Er.use (hO) ?_)|(refine Dp.use (hO) ?_));simp only [Ah,Bm,Ab,Bd,A1,Bc,Ct,Bf,Ch,A9,Aj,Df,F8,Cg,Bo,Cu,G6,Lh,Ag,Ae,A3,Cf,Bv,Bi,Bz,Bx,A4,Bp,Iw,Ik,D3,G2,Dz,Hk,H6,Lo,Fm,Hl,Jz,Bu,Hm,Di,B6,D2,Ey,Bh,Az,A5,Ht,Ji,Il,Dg,Jg,Gp,Gr,Gs,Gu,Hu,Ho,Hc,F5,G5,E1,Gg,Kz,F2,Jk,Aw,B4,C4,Fy,Ez,G7,Ga,Cl,C7,El,Cz,F1,Ad,Ac,Bn,Cq,Bg,Bb,List.map_cons,List.map_nil,List.length_cons,List.length_nil,List.append_nil,List.flatMap_cons,List.flatMap_nil,List.take_succ_cons,List.take_nil,List.drop_zero,Nat.reduceLT,Nat.reduceLeDiff,Nat.reduceEqDiff,Nat.reduceMul,true_and,Cc,Bw,↓reduceIte,reduceCtorEq,Nat.zero_add,Bool.true_and,Bool.and_true,beq_self_eq_true,W6,Jfr,Ln,e1,n1])|(exact True.intro)|(exfalso;omega)))
 (repeat' (first | (refine And.intro (by first | omega | (simp;done)|(simp;omega)) ?_)))
 (repeat' (first | (refine iteI (fun h=>?_) (fun h=>?_))|(refine B1 (by first | omega | (simp (disch:=omega) only [Aa,Ak,Ai] at *;omega)) ?_;intro b hb)|(refine And.intro (by first | omega | (simp (disch:=omega) only [Aa,Ak,Ai] at *;omega)) ?_)|((first | (refine Ba hm (by rfl) (by kernel_rfl) ?_)|(refine Det.use (hw) ?_)|(refine Det.useQ (hw) ?_)|(refine Er.use (hw) ?_)|(refine Dp.use (hw) ?_)|(refine Det.use (hp) ?_)|(refine Det.useQ (hp) ?_)|(refine Er.use (hp) ?_)|(refine Dp.use (hp) ?_)|(refine Det.use (hnm) ?_)|(refine Det.useQ (hnm) ?_)|(refine Er.use (hnm) ?_)|(refine Dp.use (hnm) ?_)|(refine Det.use (hO) ?_)|(refine Det.useQ (hO) ?_)|(refine Er.use (hO) ?_)|(refine Dp.use (hO) ?_));simp only [Ah,Bm,Ab,Bd,A1,Bc,Ct,Bf,Ch,A9,Aj,Df,F8,Cg,Bo,Cu,G6,Mj,Ag,Ae,A3,E6,Fu,En,F4,Cf,Bv,Bi,Bz,Bx,A4,Iw,Ik,D3,Hq,G2,Dz,Hk,H6,Lo,Fm,Fh,Ih,Hs,Hl,Jz,Bu,Jt,Hm,Ft,Gl,Di,B6,D2,H7,Ey,Bh,Az,A5,Ht,Ji,Il,Dg,Jg,Gp,Gr,Gs,Gu,Hu,Ho,Hc,F5,G5,E1,Gg,Kz,F2,Jk,Aw,B4,C4,Dx,Dk,Fy,N8,Ez,G7,Ga,I9,Te,G9,Cl,C7,El,Cz,F1,Ad,Ac,Bn,C6,Cq,Bg,Bb,List.map_cons,List.map_nil,List.length_cons,List.length_nil,List.cons_append,List.nil_append,List.append_nil,List.flatMap_cons,List.flatMap_nil,List.take_succ_cons,List.take_nil,List.drop_zero,decide_eq_true_eq,ne_eq,not_false_eq_true,Nat.reduceLT,Nat.reduceLeDiff,Nat.reduceEqDiff,Nat.reduceMul,true_and,Cc,Bw,↓reduceIte,reduceCtorEq,Nat.zero_add,Bool.true_and,Bool.and_true,beq_self_eq_true,Ph,Ul,Lx,l1,l2,t1,t2,e2,n2])|(exact True.intro)|(exfalso;omega)))
 (repeat' (first | (refine And.intro (by first | omega | (simp;done)|(simp;omega)) ?_)))
 (repeat' (first | (refine iteI (fun h=>?_) (fun h=>?_))|(refine B1 (by first | omega | (simp (disch:=omega) only [Aa,Ak,Ai] at *;omega)) ?_;intro b hb)|(refine And.intro (by first | omega | (simp (disch:=omega) only [Aa,Ak,Ai] at *;omega)) ?_)|((first | (refine Ba hm (by rfl) (by kernel_rfl) ?_)|(refine Det.use (hw) ?_)|(refine Det.useQ (hw) ?_)|(refine Er.use (hw) ?_)|(refine Dp.use (hw) ?_)|(refine Det.use (hp) ?_)|(refine Det.useQ (hp) ?_)|(refine Er.use (hp) ?_)|(refine Dp.use (hp) ?_)|(refine Det.use (hnm) ?_)|(refine Det.useQ (hnm) ?_)|(refine Er.use (hnm) ?_)|(refine Dp.use (hnm) ?_)|(refine Det.use (hO) ?_)|(refine Det.useQ (hO) ?_)|(refine Er.use (hO) ?_)|(refine Dp.use (hO) ?_));simp only [Ah,Bm,Cn,Ab,Bd,A1,Bc,Ct,Bf,A9,Aj,Ek,Bl,G8,Eb,Ag,Ae,A3,Bp,Et,Bs,Cs,Cr,A6,A7,B9,Av,Ap,Al,B7,B5,Af,Am,Ao,Co,Ay,Aw,A2,Ad,Ac,List.map_cons,List.map_nil,List.getElem?_cons_zero,List.getElem?_cons_succ,Nat.reduceLT,Nat.reduceEqDiff,↓reduceIte,and_self])|(exact True.intro)|(exfalso;omega)))
end Go.LX
namespace Go.LX
open Go
def isFigB (c:UInt8):Bool:=decide (48≤c.toNat) && decide (c.toNat≤57)
def figsB (s:List UInt8):Bool:=s.all isFigB
def numRt (s:List UInt8) (g:Bool) (e:Int):Prop :=
 figsB s=true∧s.length≤100∧-1000≤e∧e≤1000∧(s.length:Int)+e≤1000∧(if s=[] then g=false∧e=0 else at_ s 0≠48∧at_ s (s.length - 1)≠48)
instance (s:List UInt8) (g:Bool) (e:Int):Decidable (numRt s g e):=by unfold numRt;infer_instance
def Zz (k:Int) (s:List UInt8) (g:Bool) (e:Int) (m:Int):Prop :=
 if k=0∨k=1∨k=2 then m=0∧s=[]∧g=false∧e=0 else if k=3 then m=0∧numRt s g e else if k=4 then valid s=true∧m=0∧g=false∧e=0 else if k=5∨k=6 then 0≤m∧s=[]∧g=false∧e=0 else False
instance (k:Int) (s:List UInt8) (g:Bool) (e m:Int):Decidable (Zz k s g e m):=by unfold Zz;infer_instance
def Zv (k:Int) (l:List KT):Prop:=(k=5→∀ p∈l,p.1=[])∧(∀ p∈l,valid p.1=true)∧(k=6→Rise l)
mutual
def okT:Tree→Prop
 | .mk k s g e kids=>Zz k s g e kids.len∧Zv k kids.list∧okF kids
def okF:Forest→Prop
 | .nil=>True
 | .cons _ t r=>okT t∧okF r
end
theorem Jd5 {k:Int} {s:List UInt8} {g:Bool} {e:Int} {kids:Forest}:okT (.mk k s g e kids) ↔ Zz k s g e kids.len∧Zv k kids.list∧okF kids:=by rw [okT]
theorem Xz {nm:List UInt8} {t:Tree} {r:Forest}:okF (.cons nm t r) ↔ okT t∧okF r:=by rw [okF]
theorem Jcb:okF .nil:=by rw [okF];trivial
theorem Joa:∀ {f:Forest},okF f ↔ ∀ p∈f.list,okT p.2
 | .nil=>by simp [Forest.list,Jcb]
 | .cons nm t r=>by rw [Xz,Joa (f:=r),Forest.list,List.forall_mem_cons]
theorem Jm6 (k:Int):Zv k []:=⟨by simp,by simp,fun _=>.nil⟩
end Go.LX
set_option maxRecDepth 100000
set_option maxHeartbeats 2000000
namespace Go.LX
open Go Go.RowKit Go.Proofs
attribute [local irreducible] B2 SWP Hb
def nd (k:Int) (l:List KT):Tree:=.mk k [] false 0 (Ej l)
theorem Rb (l:List KT):(Ej l).list=l:=Sc l
theorem Jo6 {k:Int} {l:List KT}:okT (nd k l) ↔ Zz k [] false 0 l.length∧Zv k l∧∀ p∈l,okT p.2:=by
 unfold nd
 rw [Jd5,Joa,Rb,Kk]
def Ky (name:List UInt8) (t:Tree) (l:List KT):List KT:=l.map fun p=>if p.1=name then (name,t) else p
theorem Jqm (name:List UInt8) (t:Tree) (l:List KT):(Ky name t l).map (·.1)=l.map (·.1):=by
 unfold Ky
 rw [List.map_map]
 apply List.map_congr_left
 intro p _
 simp only [Function.comp]
 split <;> simp_all
theorem rise_fst {l m:List KT} (h:l.map (·.1)=m.map (·.1)):Rise l ↔ Rise m:=by
 have e:∀ l:List KT,Rise l ↔ (l.map (·.1)).Pairwise fun a b=>Op.bytesLess a b=true:=fun l=>by unfold Rise;rw [List.pairwise_map]
 rw [e,e,h]
theorem Tq {name:List UInt8} {t:Tree} {l:List KT} (h:Rise l):Rise (Ky name t l):=(rise_fst (Jqm name t l)).2 h
theorem Y8 {name:List UInt8} {t:Tree}:∀ {l:List KT},(∀ p∈l,p.1≠name)→Ky name t l=l
 | [],_=>rfl
 | p :: l,h=>by
  have:=Y8 (t:=t) fun q hq=>h q (List.mem_cons_of_mem p hq)
  unfold Ky at this ⊢
  rw [List.map_cons,if_neg (h p List.mem_cons_self),this]
theorem Jjs {name:List UInt8}:∀ {l:List KT},(∀ p∈l,p.1≠name)→Fg name l=l
 | [],_=>rfl
 | p :: l,h=>by rw [Fg,if_neg (h p List.mem_cons_self),Jjs fun q hq=>h q (List.mem_cons_of_mem p hq)]
theorem Jlx {name:List UInt8} {y:Tree}:∀ {l:List KT},Rise l→(∃ p∈l,p.1=name)→putL name y (Fg name l)=Ky name y l
 | [],_,h=>by obtain ⟨p,hp,_⟩:=h;cases hp
 | p :: l,hr,h=>by
  obtain ⟨h1,h2⟩:=List.pairwise_cons.1 hr
  by_cases hp:p.1=name
  ·have hno:∀ q∈l,q.1≠name:=fun q hq e=>by
    have:=h1 q hq;rw [hp,e,O6] at this;cases this
   rw [Fg,if_pos hp,Jjs hno]
   unfold Ky
   rw [List.map_cons,if_pos hp]
   have:=Y8 (t:=y) hno
   unfold Ky at this
   rw [this]
   cases l with
   | nil=>rfl
   | cons q l =>
    have:=h1 q List.mem_cons_self
    rw [hp] at this
    rw [putL,if_neg (by rw [Yn this];simp)]
  ·obtain ⟨q,hq,hqn⟩:=h
   have hq':q∈l:=by
    rcases List.mem_cons.1 hq with rfl | hq
    ·exact absurd hqn hp
    ·exact hq
   have hlt:=h1 q hq'
   rw [hqn] at hlt
   rw [Fg,if_neg hp,putL,if_pos hlt,Jlx h2 ⟨q,hq',hqn⟩]
   unfold Ky
   rw [List.map_cons,if_neg hp]
theorem W7 {name:List UInt8} {y:Tree}:∀ {l:List KT},(∃ p∈l,p.1=name)→K9 name (Ky name y l)=some y
 | [],h=>by obtain ⟨p,hp,_⟩:=h;cases hp
 | p :: l,h=>by
  unfold Ky
  rw [List.map_cons]
  by_cases hp:p.1=name
  ·rw [if_pos hp,K9,if_pos rfl]
  ·rw [if_neg hp,K9,if_neg hp]
   obtain ⟨q,hq,hqn⟩:=h
   refine W7 ⟨q,?_,hqn⟩
   rcases List.mem_cons.1 hq with rfl | hq
   ·exact absurd hqn hp
   ·exact hq
theorem Vm {name n':List UInt8} {y:Tree} (hn:n'≠name):∀ {l:List KT},K9 n' (Ky name y l)=K9 n' l
 | []=>rfl
 | p :: l=>by
  have ih:=Vm hn (y:=y) (l:=l)
  unfold Ky at ih ⊢
  rw [List.map_cons]
  by_cases hp:p.1=name
  ·rw [if_pos hp,K9,if_neg (by simp only;exact fun e=>hn e.symm),K9,if_neg (by rw [hp];exact fun e=>hn e.symm),ih]
  ·rw [if_neg hp,K9,K9,ih]
theorem Jkp (name:List UInt8) (y z:Tree) (l:List KT):Ky name z (Ky name y l)=Ky name z l:=by
 unfold Ky
 rw [List.map_map]
 apply List.map_congr_left
 intro p _
 simp only [Function.comp]
 by_cases h:p.1=name <;> simp [h]
theorem Jmt {a b:List UInt8} (h:a≠b) (y z:Tree) (l:List KT):Ky a y (Ky b z l)=Ky b z (Ky a y l):=by
 unfold Ky
 rw [List.map_map,List.map_map]
 apply List.map_congr_left
 intro p _
 simp only [Function.comp]
 by_cases h1:p.1=a
 ·have h2:¬ p.1=b:=fun e=>h (h1.symm.trans e)
  simp [h1,h,h2]
 ·by_cases h2:p.1=b
  ·simp [h2,Ne.symm h]
  ·simp [h1,h2]
theorem Jd4 {name:List UInt8} {w:Tree}:∀ {l:List KT},Rise l→K9 name l=some w→Ky name w l=l
 | [],_,h=>by cases h
 | p :: l,hr,h=>by
  obtain ⟨h1,h2⟩:=List.pairwise_cons.1 hr
  rw [K9] at h
  by_cases hp:p.1=name
  ·rw [if_pos hp] at h
   have hno:∀ q∈l,q.1≠name:=fun q hq e=>by
    have:=h1 q hq;rw [hp,e,O6] at this;cases this
   have e:=Y8 (t:=w) hno
   unfold Ky at e ⊢
   rw [List.map_cons,if_pos hp,e]
   cases h
   obtain ⟨a,b⟩:=p
   simp only at hp;subst hp;rfl
  ·rw [if_neg hp] at h
   have e:=Jd4 h2 h
   unfold Ky at e ⊢
   rw [List.map_cons,if_neg hp,e]
theorem Jsf {name:List UInt8} {y:Tree} {l:List KT} (h:∀ p∈l,okT p.2) (hy:okT y):∀ p∈Ky name y l,okT p.2:=by
 intro p hp
 obtain ⟨q,hq,rfl⟩:=List.mem_map.1 hp
 split
 ·exact hy
 ·exact h q hq
theorem Jnv {name:List UInt8} {y:Tree} {l:List KT} (h:Zv 6 l):Zv 6 (Ky name y l):=by
 obtain ⟨_,h2,h3⟩:=h
 refine ⟨by simp,fun p hp=>?_,fun _=>Tq (h3 rfl)⟩
 obtain ⟨q,hq,rfl⟩:=List.mem_map.1 hp
 split
 ·rename_i e;simp only;rw [← e];exact h2 q hq
 ·exact h2 q hq
theorem Jpq {name:List UInt8} {y w:Tree}:∀ {l:List KT},Rise l→K9 name l=some w→(Ej (Ky name y l)).enc.length+(w.enc []).length=(Ej l).enc.length+(y.enc []).length
 | [],_,h=>by cases h
 | p :: l,hr,h=>by
  obtain ⟨h1,h2⟩:=List.pairwise_cons.1 hr
  rw [K9] at h
  by_cases hp:p.1=name
  ·rw [if_pos hp] at h
   cases h
   have hno:∀ q∈l,q.1≠name:=fun q hq e=>by
    have:=h1 q hq;rw [hp,e,O6] at this;cases this
   have e:=Y8 (t:=y) hno
   have e2:Ky name y (p :: l)=(name,y) :: l:=by
    unfold Ky at e ⊢
    rw [List.map_cons,if_pos hp,e]
   rw [e2]
   simp only [Ej,E9,List.length_append,R8 _ name,R8 _ p.1];omega
  ·rw [if_neg hp] at h
   have ih:=Jpq (y:=y) h2 h
   have e2:Ky name y (p :: l)=p :: Ky name y l:=by
    unfold Ky
    rw [List.map_cons,if_neg hp]
   rw [e2]
   simp only [Ej,E9,List.length_append];omega
theorem Jom {y w:Tree} {nm:List UInt8}:∀ {l:List KT} {i:Nat},l[i]? = some (nm,w)→(Ej (l.set i (nm,y))).enc.length+(w.enc []).length=(Ej l).enc.length+(y.enc []).length
 | [],i,h=>by simp at h
 | p :: l,0,h=>by
  simp at h;subst h
  simp only [List.set_cons_zero,Ej,E9,List.length_append,R8 _ nm];omega
 | p :: l,i+1,h=>by
  have:=Jom (y:=y) (l:=l) (i:=i) (by simpa using h)
  simp only [List.set_cons_succ,Ej,E9,List.length_append];omega
def putT:Tree→Step→Tree→Tree
 | .mk _ _ _ _ kids,x,y=>if x.part=true then nd 5 (unn (kids.list.set x.n.toNat ([],y))) else nd 6 (putL x.name y (Fg x.name kids.list))
inductive Way (t:Tree) (x:Step) (w:Tree):Prop
 | list (l:List KT) (h:t=nd 5 l) (hp:x.part=true) (hn:∀ p∈l,p.1=[]) (hi:l[x.n.toNat]? = some ([],w))
 | obj (l:List KT) (h:t=nd 6 l) (hp:x.part=false) (hr:Rise l) (hi:K9 x.name l=some w)
theorem unn_id:∀ {l:List KT},(∀ p∈l,p.1=[])→unn l=l
 | [],_=>rfl
 | p :: l,h=>by
  have:=unn_id fun q hq=>h q (List.mem_cons_of_mem p hq)
  unfold unn at this ⊢
  rw [List.map_cons,this,← h p List.mem_cons_self]
theorem way_of {t:Tree} {x:Step} {w:Tree} (ht:okT t) (h:inT t x=.ok w):Way t x w:=by
 cases t with
 | mk k s g e kids =>
 rw [Jd5] at ht
 obtain ⟨h1,h2,h3⟩:=ht
 unfold Zz at h1
 cases hp:x.part
 ·by_cases hk:k=6
  ·subst hk
   simp at h1
   obtain ⟨rfl,rfl,rfl⟩:=h1
   rw [Jj8 hp] at h
   cases hf:K9 x.name kids.list with
   | none=>rw [hf] at h;cases h
   | some u =>
    rw [hf] at h;cases h
    exact .obj kids.list (by unfold nd;rw [Uh]) hp (h2.2.2 rfl) hf
  ·rw [Jch hp hk] at h;cases h
 ·by_cases hk:k=5
  ·subst hk
   simp at h1
   obtain ⟨rfl,rfl,rfl⟩:=h1
   rw [Jkt hp] at h
   cases hf:kids.list[x.n.toNat]? with
   | none=>rw [hf] at h;cases h
   | some q =>
    rw [hf] at h;cases h
    have hq:=h2.1 rfl q (List.mem_of_getElem? hf)
    refine .list kids.list (by unfold nd;rw [Uh]) hp (h2.1 rfl) ?_
    rw [hf];obtain ⟨a,b⟩:=q;simp only at hq;subst hq;rfl
  ·rw [Jcf hp hk] at h;cases h
theorem inT_nd5 {l:List KT} {x:Step} (hp:x.part=true):inT (nd 5 l) x=match l[x.n.toNat]? with
   | some p=>.ok p.2
   | none=>.error 6:=by unfold nd;rw [Jkt hp,Rb];rfl
theorem inT_nd6 {l:List KT} {x:Step} (hp:x.part=false):inT (nd 6 l) x=match K9 x.name l with
   | some t=>.ok t
   | none=>.error 6:=by unfold nd;rw [Jj8 hp,Rb];rfl
theorem Re {l:List KT} {i:Nat} {y:Tree} (h:∀ p∈l,p.1=[]):∀ p∈l.set i ([],y),p.1=[]:=by
 intro p hp
 rcases List.mem_or_eq_of_mem_set hp with hp | rfl
 ·exact h p hp
 ·rfl
theorem L7 {l:List KT} {x:Step} {y:Tree} (hp:x.part=true) (hn:∀ p∈l,p.1=[]):putT (nd 5 l) x y=nd 5 (l.set x.n.toNat ([],y)):=by
 show (if x.part=true then nd 5 (unn ((Ej l).list.set x.n.toNat ([],y))) else _)=_
 rw [if_pos hp,Rb,unn_id (Re hn)]
theorem Ni {l:List KT} {x:Step} {y w:Tree} (hp:x.part=false) (hr:Rise l) (hi:K9 x.name l=some w):putT (nd 6 l) x y=nd 6 (Ky x.name y l):=by
 show (if x.part=true then _ else nd 6 (putL x.name y (Fg x.name (Ej l).list)))=_
 rw [if_neg (by simp [hp]),Rb,Jlx hr]
 obtain ⟨p,h1,_,h2⟩:=Ta hi
 exact ⟨p,h1,h2⟩
theorem Jjp {name:List UInt8} {l:List KT} {w:Tree} (h:K9 name l=some w):∃ p∈l,p.1=name:=by
 obtain ⟨p,h1,_,h2⟩:=Ta h
 exact ⟨p,h1,h2⟩
theorem Jpr {t:Tree} {x:Step} {w y:Tree} (h:Way t x w):inT (putT t x y) x=.ok y:=by
 cases h with
 | list l h hp hn hi =>
  subst h
  rw [L7 hp hn,inT_nd5 hp,List.getElem?_set_self (List.getElem?_eq_some_iff.1 hi).1]
 | obj l h hp hr hi =>
  subst h
  rw [Ni hp hr hi,inT_nd6 hp,W7 (Jjp hi)]
theorem Jtj {t:Tree} {x:Step} {w:Tree} (h:Way t x w):putT t x w=t:=by
 cases h with
 | list l h hp hn hi =>
  subst h
  rw [L7 hp hn]
  congr 1
  apply List.ext_getElem?
  intro i
  rw [List.getElem?_set]
  split
  ·subst_vars
   first
    | (split <;> simp_all)
    | simp_all
  ·rfl
 | obj l h hp hr hi =>
  subst h
  rw [Ni hp hr hi,Jd4 hr hi]
theorem Jqh {t:Tree} {x:Step} {w y z:Tree} (h:Way t x w):putT (putT t x y) x z=putT t x z:=by
 cases h with
 | list l h hp hn hi =>
  subst h
  rw [L7 hp hn,L7 hp (Re hn),L7 hp hn,List.set_set]
 | obj l h hp hr hi =>
  subst h
  rw [Ni hp hr hi,Ni hp (Tq hr) (W7 (Jjp hi)),Ni hp hr hi,Jkp]
theorem put_comm {t:Tree} {x x':Step} {w w' y y':Tree} (h:Way t x w) (h':Way t x' w') (hx:Fw x) (hx':Fw x') (hne:x≠x'):putT (putT t x y) x' y'=putT (putT t x' y') x y:=by
 unfold Fw at hx hx'
 cases h with
 | list l h hp hn hi =>
  subst h
  cases h' with
  | list l' h' hp' hn' hi' =>
   rw [if_pos hp] at hx
   rw [if_pos hp'] at hx'
   have hnn:x.n.toNat≠x'.n.toNat:=fun e=>hne (by
    cases x;cases x';simp_all;omega)
   rw [L7 hp hn,L7 hp' (Re hn),L7 hp' hn,L7 hp (Re hn),List.set_comm _ _ hnn]
  | obj l' h' hp' hr' hi'=>unfold nd at h';cases h'
 | obj l h hp hr hi =>
  subst h
  cases h' with
  | list l' h' hp' hn' hi'=>unfold nd at h';cases h'
  | obj l' h' hp' hr' hi' =>
   have e:l=l':=by
    unfold nd at h'
    injection h' with _ _ _ _ h5
    have:=congrArg Forest.list h5
    rw [Rb,Rb] at this;exact this
   subst e
   rw [if_neg (by simp [hp])] at hx
   rw [if_neg (by simp [hp'])] at hx'
   have hnn:x'.name≠x.name:=fun e=>hne (by
    cases x;cases x';simp_all)
   rw [Ni hp hr hi,Ni hp' (Tq hr) (by rw [Vm hnn];exact hi'),Ni hp' hr hi',Ni hp (Tq hr) (by rw [Vm (Ne.symm hnn)];exact hi),Jmt hnn]
theorem put_ok {t:Tree} {x:Step} {w y:Tree} (ht:okT t) (h:Way t x w) (hy:okT y):okT (putT t x y):=by
 cases h with
 | list l h hp hn hi =>
  subst h
  rw [L7 hp hn]
  rw [Jo6] at ht ⊢
  obtain ⟨h1,h2,h3⟩:=ht
  refine ⟨by rw [List.length_set];exact h1,⟨fun _=>Re hn,fun p hp'=>?_,by simp⟩,fun p hp'=>?_⟩
  ·rw [Re hn p hp'];rfl
  ·rcases List.mem_or_eq_of_mem_set hp' with hp' | rfl
   ·exact h3 p hp'
   ·exact hy
 | obj l h hp hr hi =>
  subst h
  rw [Ni hp hr hi]
  rw [Jo6] at ht ⊢
  obtain ⟨h1,h2,h3⟩:=ht
  exact ⟨by unfold Ky;rw [List.length_map];exact h1,Jnv h2,Jsf h3 hy⟩
theorem Jmj {t:Tree} {x:Step} {w:Tree} (ht:okT t) (h:Way t x w):okT w:=by
 cases h with
 | list l h hp hn hi=>subst h;exact (Jo6.1 ht).2.2 _ (List.mem_of_getElem? hi)
 | obj l h hp hr hi =>
  subst h
  obtain ⟨p,h1,h2,_⟩:=Ta hi
  rw [← h2];exact (Jo6.1 ht).2.2 p h1
theorem Jiw (k:Int) (l:List KT):((nd k l).enc []).length=(Ej l).enc.length+1:=by unfold nd;rw [Gx];rfl
theorem put_len {t:Tree} {x:Step} {w y:Tree} (h:Way t x w):((putT t x y).enc []).length+(w.enc []).length=(t.enc []).length+(y.enc []).length:=by
 cases h with
 | list l h hp hn hi =>
  subst h
  rw [L7 hp hn,Jiw,Jiw]
  have:=Jom (y:=y) hi
  omega
 | obj l h hp hr hi =>
  subst h
  rw [Ni hp hr hi,Jiw,Jiw]
  have:=Jpq (y:=y) hr hi
  omega
def setT:List Step→Tree→Tree→Except Nat Tree
 | [],_,u=>.ok u
 | x :: p,t,u=>match inT t x with
  | .error e=>.error e
  | .ok w=>match setT p w u with
   | .error e=>.error e
   | .ok y=>.ok (putT t x y)
theorem Jpn:∀ {p:List Step} {t u:Tree} {e:Nat},setT p t u=.error e ↔ getT p t=.error e
 | [],t,u,e=>by simp [setT,getT]
 | x :: p,t,u,e=>by
  rw [setT,getT]
  cases inT t x with
  | error e'=>simp
  | ok w =>
   simp only
   rw [← Jpn (p:=p) (t:=w) (u:=u)]
   cases setT p w u with
   | error e'=>simp
   | ok y=>simp
theorem set_ok:∀ {p:List Step} {t u y:Tree},okT t→okT u→setT p t u=.ok y→∃ w,getT p t=.ok w∧getT p y=.ok u∧setT p y w=.ok t∧okT y∧okT w∧(y.enc []).length+(w.enc []).length=(t.enc []).length+(u.enc []).length
 | [],t,u,y,ht,hu,h=>by
  cases h
  exact ⟨t,rfl,rfl,rfl,hu,ht,by omega⟩
 | x :: p,t,u,y,ht,hu,h=>by
  rw [setT] at h
  cases hi:inT t x with
  | error e=>rw [hi] at h;cases h
  | ok v =>
   rw [hi] at h
   have hw:=way_of ht hi
   have hv:=Jmj ht hw
   simp only at h
   cases hs:setT p v u with
   | error e=>rw [hs] at h;cases h
   | ok z =>
    rw [hs] at h
    simp only at h
    cases h
    obtain ⟨w,g1,g2,g3,g4,g5,g6⟩:=set_ok hv hu hs
    refine ⟨w,by rw [getT,hi];exact g1,by rw [getT,Jpr hw];exact g2,?_,put_ok ht hw g4,g5,?_⟩
    ·rw [setT,Jpr hw]
     simp only
     rw [g3]
     simp only
     rw [Jqh hw,Jtj hw]
    ·have:=put_len (y:=z) hw
     omega
theorem Jnx:∀ (p q:List Step),M0 p q=M0 q p
 | [],q=>by cases q <;> rfl
 | x :: p,[]=>rfl
 | x :: p,y :: q=>by
  rw [M0,M0,Jnx p q]
  have:decide (Ru x y)=decide (Ru y x):=by rw [decide_eq_decide,Nr,Nr];exact eq_comm
  rw [this]
theorem Jgx:∀ (p q:List Step),Zk p q=M0 p q
 | [],q=>by unfold Zk;cases q <;> simp [M0]
 | x :: p,[]=>by unfold Zk;simp [M0]
 | x :: p,y :: q=>by
  have ih:=Jgx p q
  unfold Zk at ih ⊢
  rw [M0,← ih]
  simp only [List.length_cons,Nat.succ_min_succ,List.take_succ_cons,List.cons.injEq]
  rw [Bool.eq_iff_iff]
  simp only [Bool.not_eq_true',decide_eq_false_iff_not,Bool.or_eq_true,← Nr]
  by_cases h:Ru x y <;> simp [h]
end Go.LX
