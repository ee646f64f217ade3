/- Values, the document's answer: names. -/
import Derived.Test.YtmejkfclabmijaaGreatDoorPathTextsLxL
set_option linter.unusedSimpArgs false
set_option linter.unusedVariables false
set_option linter.unusedSectionVars false
set_option linter.unnecessarySimpa false
set_option maxRecDepth 100000
set_option maxHeartbeats 2000000
namespace Go.LX
open Go Go.RowKit Go.Proofs
attribute [local irreducible] B2 SWP Hb
theorem Jc4 (nm:List UInt8) (s:List UInt8) (g:Bool) (e:Int) (kids:Forest) (hv:kids.enc.length≤999999):Det cx 44 [.p (.sl (valL ((Tree.mk 6 s g e kids).enc nm)))] [] (.p (.sl (Gd kids.list))) []:=by
 have hl:=Forest.len_le kids
 have hkl:=Forest.list_len kids
 generalize hvv:(Tree.mk 6 s g e kids).enc nm=v
 have h0:v.drop 0=⟨6,kids.len,nm,s,g,e⟩ :: kids.enc:=by rw [← hvv,Gx];rfl
 have hg0:=Pm h0
 rw [Nq] at hg0
 have hvl:v.length=kids.enc.length+1:=by rw [← hvv,Gx];rfl
 skip
 (refine B2.of_code (X:=cx) false [] (by simp) Tryz.func44 (by kernel_rfl) rfl (by simp only [List.length_cons,List.length_nil,Tryz.ntmps44];decide) (by simp) ?_;refine Ax hm _ _ _ ?_;simp only [Tryz.ntmps44,Tryz.results44,Ah,Bm,Ce,He,Ab,Bd,A1,Bc,Ct,Bf,A0,Ca,E4,Aj,Df,Bo,Cu,Ag,Ht,Ji,Il,Dg,Jg,Gp,Hu,B4,Ez,Ad,Ac,Bn,Bg,Bb,argW,List.map_cons,List.map_nil,List.length_cons,List.length_nil,Nat.reduceLT,Nat.reduceLeDiff,Nat.reduceMul,true_and,Cc,↓reduceIte,Nat.zero_add,Bool.true_and,W6,Ln])
 (repeat' (first | (refine iteI (fun h=>?_) (fun h=>?_))|(refine B1 (by first | omega | (simp (disch:=omega) only [Aa,Ak,Ai] at *;omega)) ?_;intro b hb)|(refine And.intro (by first | omega | (simp (disch:=omega) only [Aa,Ak,Ai] at *;omega)) ?_)|((first | (refine Ba hm (by rfl) (by kernel_rfl) ?_));simp only [Dh])|(exact True.intro)|(exfalso;omega)))
 refine SWP.of_le (Jh [(6,29)] _ (by simp)) ?_
 simp only [Bu,Fn,Di,B6,D2,Ey,Af,C3,Gj,Fl,D8,Dr,Du,Cq,Bg,Bb,↓reduceIte]
 refine SWP.loop (fun x:Nat×Nat×Forest=>⟨Fp 34 [(0,.p (.sl (valL v))),(3,.own 29 0 x.1),(4,.p (.int .i64 x.2.1)),(5,.p (.int .i64 x.1))],[(29,.row 9 1 (Gd (kids.list.take x.1)))]⟩) (fun x=>x.1+x.2.2.len=kids.len∧v.drop x.2.1=x.2.2.enc∧x.2.1+x.2.2.enc.length=v.length∧kids.list.drop x.1=x.2.2.list) (fun x=>x.2.2.enc.length) (0,1,kids) (St.le_slots (by simp only [Cd,Ck,Ac,Be,Aq,Nat.reduceEqDiff,reduceIte,Nat.reduceLT,Nat.reduceLeDiff];simp (disch:=omega) [Aq,A8,Cm,Aa] <;> (repeat' apply And.intro) <;> omega) (by simp (disch:=omega) [Dc,Ee,C9,Bj,Aq,A8,Cm,Aa]) (by simp [De])) ⟨by simp,by rw [← hvv,Gx];rfl,by simp only;omega,rfl⟩ ?_
 rintro ⟨k,j,F⟩ ⟨h1,h2,h3,h4⟩
 simp only at h1 h2 h3 h4 ⊢
 match F,h1,h2,h3,h4 with
 | .nil,h1,h2,h3,h4 =>
  simp only [Forest.len] at h1
  have hkk:k=kids.len:=by omega
  subst hkk
  have hpl:(kids.len≤(Gd (kids.list.take kids.len)).length)=True:=eq_true (by rw [Gc,List.length_take];omega)
  have htk:(Gd (kids.list.take kids.len)).take kids.len=Gd kids.list:=by
   rw [List.take_of_length_le (by rw [Gc,List.length_take];omega),List.take_of_length_le (by omega)]
  have hgj:=hpl
  skip
  (refine Ax hm _ _ _ ?_;simp only [Cb,Ah,Bm,Br,Ce,Eh,Cn,Ab,Ci,B0,Bd,A1,Da,Bc,D9,Bf,A0,Cw,Ca,A9,Aj,B8,D0,Ed,C8,Cv,Bl,Bq,C2,Dq,Db,Dn,Au,Bt,Ar,G0,Dm,Eo,Cj,Ei,G8,C0,Gb,C5,Dd,Ag,Ae,E6,Fu,En,F4,Bs,Cs,Cr,A6,A7,B9,Av,Ap,Al,B7,B5,Af,Am,Ao,Co,Ay,Aw,Dx,Dk,I9,Jx,Pg,G9,A2,Ad,Ac,C6,Bg,Bb,Dy,List.map_cons,List.map_nil,List.getD_cons_zero,List.getD_cons_succ,List.length_cons,List.length_nil,List.drop_succ_cons,List.drop_zero,List.getElem?_cons_zero,decide_eq_true_eq,Nat.reduceLT,Nat.reduceLeDiff,Nat.reduceEqDiff,Nat.reduceAdd,Int.reduceToNat,Int.reduceLE,true_and,Cc,↓reduceIte,reduceCtorEq,Int.toNat_natCast,Int.natCast_nonneg,Nat.zero_add,Bool.false_eq_true,Bool.true_and,Bool.or_false,Bool.or_true,beq_self_eq_true,and_self,Ox,Mm,Kc,Lm,Lb,hg0,hpl,htk])
  (repeat' (first | (exfalso;omega)|(refine iteI (fun h=>?_) (fun h=>?_))|(refine B1 (by first | omega | (simp (disch:=omega) only [Aa,Ak,Ai] at *;omega)) ?_;intro b hb)|(refine And.intro (by first | omega | (simp (disch:=omega) only [Aa,Ak,Ai] at *;omega)) ?_)|((first | (refine Ba hm (by rfl) (by kernel_rfl) ?_));simp only [Dh])|(exact True.intro)|(exfalso;omega)))
  skip
 | .cons nm' t' r,h1,h2,h3,h4 =>
  rw [Rm] at h1
  rw [E9] at h2 h3
  rw [List.length_append] at h3
  have hkk:kids.list[k]? = some (nm',t'):=by
   have:=congrArg (·[0]?) h4
   simpa [Forest.list] using this
  have hpk:=Xg hkk
  have hpl:(Gd (kids.list.take k)).length=k:=by rw [Gc,List.length_take];omega
  have hw:=wj1 (i:=k) (by omega)
  have htk:=hw
  obtain ⟨k9,n9,s9,g9,e9,hgj⟩:=Jjq h2
  skip
  (refine Ax hm _ _ _ ?_;simp only [Cb,Ah,Bm,Br,Ce,Eh,Cn,Ab,Ci,B0,Bd,A1,Da,Bc,D9,Ct,Bf,A0,Ch,Cw,Ca,A9,Aj,B8,D0,Ed,C8,Cv,Df,F8,Cg,Bo,Bl,Bq,C2,Dq,Db,Dn,Au,Bt,Ar,G0,Dm,Eo,Cj,Ei,G8,C0,Gb,C5,Dd,Cu,G6,Lh,Ag,Ae,A3,E6,Fu,En,F4,Cf,Bv,Bi,Bz,Bx,A4,B6,Bh,Az,A5,Ht,Ji,Il,Dg,Jg,Gp,Gr,Gs,Gu,Hu,Ho,Hc,F5,G5,E1,Gg,Kz,F2,Jk,A7,B7,B5,Af,Am,Ao,Aw,B4,C4,Dx,Dk,Fy,Ez,G7,Jr,Ga,I9,Jx,Pg,G9,Cl,C7,El,Cz,F1,A2,Ad,Ac,Bn,C6,Bg,Bb,Dy,List.map_cons,List.map_nil,List.getD_cons_zero,List.getD_cons_succ,List.length_cons,List.length_nil,List.append_nil,List.flatMap_cons,List.flatMap_nil,List.take_succ_cons,List.take_nil,List.drop_succ_cons,List.drop_zero,List.getElem?_cons_zero,decide_eq_true_eq,Nat.reduceLT,Nat.reduceLeDiff,Nat.reduceEqDiff,Nat.reduceAdd,Nat.reduceMul,Int.reduceToNat,Int.reduceLE,true_and,Cc,Bw,↓reduceIte,reduceCtorEq,Int.toNat_natCast,Int.natCast_nonneg,Nat.zero_add,Bool.false_eq_true,Bool.true_and,Bool.and_true,Bool.or_false,Bool.or_true,beq_self_eq_true,Ox,Mm,L5,Kg,W6,Jfr,Kc,Lm,Lb,Tr,Ln,hg0,hpl,hgj])
  (repeat' (first | (refine iteI (fun h=>?_) (fun h=>?_))|(refine B1 (by first | omega | (simp (disch:=omega) only [Aa,Ak,Ai] at *;omega)) ?_;intro b hb)|(refine And.intro (by first | omega | (simp (disch:=omega) only [Aa,Ak,Ai] at *;omega)) ?_)|((first | (refine Ba hm (by rfl) (by kernel_rfl) ?_)|(refine Det.use (Lw v j nm' t' r.enc (by omega) h2) ?_)|(refine Det.useQ (Lw v j nm' t' r.enc (by omega) h2) ?_));simp only [Dh])|(exact True.intro)|(exfalso;omega)))
  refine ⟨by simp,by omega,by omega,?_⟩
  (repeat' (first | (refine iteI (fun h=>?_) (fun h=>?_))|(refine B1 (by first | omega | (simp (disch:=omega) only [Aa,Ak,Ai] at *;omega)) ?_;intro b hb)|(refine And.intro (by first | omega | (simp (disch:=omega) only [Aa,Ak,Ai] at *;omega)) ?_)|((first | (refine Ba hm (by rfl) (by kernel_rfl) ?_)|(refine Det.use (Lw v j nm' t' r.enc (by omega) h2) ?_)|(refine Det.useQ (Lw v j nm' t' r.enc (by omega) h2) ?_));simp only [Ah,Ab,Bk,Bd,A1,Bc,Ct,Bf,A0,Ca,A9,Aj,B8,Au,Bt,Ar,E8,Bp,B6,Ad,Ac,Dy,List.map_cons,List.map_nil,Nat.reduceLT,Nat.reduceEqDiff,Cc,↓reduceIte,reduceCtorEq,Bool.or_true,htk])|(exact True.intro)|(exfalso;omega)))
  refine ⟨(k+1,j+(t'.enc nm').length,r),⟨by simp only;omega,by simp only;rw [← List.drop_drop,h2,List.drop_left],by simp only;omega,by simp only;rw [← List.drop_drop,h4];rfl⟩,by have:=R7 t' nm';simp only [E9,List.length_append];omega,?_⟩
  simp only
  rw [hpk]
  exact (St.le_slots (by simp only [Cd,Ck,Ac,Be,Aq,Nat.reduceEqDiff,reduceIte,Nat.reduceLT,Nat.reduceLeDiff];simp (disch:=omega) [Aq,A8,Cm,Aa] <;> (repeat' apply And.intro) <;> omega) (by simp (disch:=omega) [Dc,Ee,C9,Bj,Aq,A8,Cm,Aa]) (by simp [De]))
theorem Jl8 (nm:List UInt8) (s:List UInt8) (g:Bool) (e:Int) (kids:Forest) (hv:kids.enc.length≤999999):Det cx 44 [.p (.sl (valL ((Tree.mk 6 s g e kids).enc nm)))] [] (.own 900 0 kids.len) [(900,.row 9 1 (Gd kids.list))]:=by
 have hl:=Forest.len_le kids
 have hkl:=Forest.list_len kids
 generalize hvv:(Tree.mk 6 s g e kids).enc nm=v
 have h0:v.drop 0=⟨6,kids.len,nm,s,g,e⟩ :: kids.enc:=by rw [← hvv,Gx];rfl
 have hg0:=Pm h0
 rw [Nq] at hg0
 have hvl:v.length=kids.enc.length+1:=by rw [← hvv,Gx];rfl
 skip
 (refine B2.of_code (X:=cx) true [(29,900)] (by simp) Tryz.func44 (by kernel_rfl) rfl (by simp only [List.length_cons,List.length_nil,Tryz.ntmps44];decide) (by simp) ?_;refine Ax hm _ _ _ ?_;simp only [Tryz.ntmps44,Tryz.results44,Ah,Bm,Ce,He,Ab,Bd,A1,Bc,Ct,Bf,A0,Ca,E4,Aj,Df,Bo,Cu,Ag,Ht,Ji,Il,Dg,Jg,Gp,Hu,B4,Ez,Ad,Ac,Bn,Bg,Bb,argW,List.map_cons,List.map_nil,List.length_cons,List.length_nil,Nat.reduceLT,Nat.reduceLeDiff,Nat.reduceMul,true_and,Cc,↓reduceIte,Nat.zero_add,Bool.true_and,W6,Ln])
 (repeat' (first | (refine iteI (fun h=>?_) (fun h=>?_))|(refine B1 (by first | omega | (simp (disch:=omega) only [Aa,Ak,Ai] at *;omega)) ?_;intro b hb)|(refine And.intro (by first | omega | (simp (disch:=omega) only [Aa,Ak,Ai] at *;omega)) ?_)|((first | (refine Ba hm (by rfl) (by kernel_rfl) ?_));simp only [Dh])|(exact True.intro)|(exfalso;omega)))
 refine SWP.of_le (Jh [(6,29)] _ (by simp)) ?_
 simp only [Bu,Fn,Di,B6,D2,Ey,Af,C3,Gj,Fl,D8,Dr,Du,Cq,Bg,Bb,↓reduceIte]
 refine SWP.loop (fun x:Nat×Nat×Forest=>⟨Fp 34 [(0,.p (.sl (valL v))),(3,.own 29 0 x.1),(4,.p (.int .i64 x.2.1)),(5,.p (.int .i64 x.1))],[(29,.row 9 1 (Gd (kids.list.take x.1)))]⟩) (fun x=>x.1+x.2.2.len=kids.len∧v.drop x.2.1=x.2.2.enc∧x.2.1+x.2.2.enc.length=v.length∧kids.list.drop x.1=x.2.2.list) (fun x=>x.2.2.enc.length) (0,1,kids) (St.le_slots (by simp only [Cd,Ck,Ac,Be,Aq,Nat.reduceEqDiff,reduceIte,Nat.reduceLT,Nat.reduceLeDiff];simp (disch:=omega) [Aq,A8,Cm,Aa] <;> (repeat' apply And.intro) <;> omega) (by simp (disch:=omega) [Dc,Ee,C9,Bj,Aq,A8,Cm,Aa]) (by simp [De])) ⟨by simp,by rw [← hvv,Gx];rfl,by simp only;omega,rfl⟩ ?_
 rintro ⟨k,j,F⟩ ⟨h1,h2,h3,h4⟩
 simp only at h1 h2 h3 h4 ⊢
 match F,h1,h2,h3,h4 with
 | .nil,h1,h2,h3,h4 =>
  simp only [Forest.len] at h1
  have hkk:k=kids.len:=by omega
  subst hkk
  have hpl:(kids.len≤(Gd (kids.list.take kids.len)).length)=True:=eq_true (by rw [Gc,List.length_take];omega)
  have htk:(Gd (kids.list.take kids.len)).take kids.len=Gd kids.list:=by
   rw [List.take_of_length_le (by rw [Gc,List.length_take];omega),List.take_of_length_le (by omega)]
  have hgj:=hpl
  skip
  (refine Ax hm _ _ _ ?_;simp only [Cb,Ah,Bm,Br,Ce,Eh,Cn,Ab,Ci,B0,Bd,A1,Da,Bc,D9,Bf,A0,Cw,Ca,A9,Aj,B8,D0,Ed,C8,Cv,Bl,Bq,C2,Dq,Db,Dn,Au,Bt,Ar,G0,Dm,Eo,Cj,Ei,G8,C0,Gb,C5,Dd,Bu,Fn,Di,B6,D2,Jl,Et,Ey,Km,Av,Ap,Em,Ls,H5,Af,C3,Gj,Fl,D8,Dr,Du,Aw,A2,Ad,Ac,Cq,Bg,Bb,Dy,List.map_cons,List.map_nil,List.getD_cons_zero,List.getD_cons_succ,List.length_cons,List.length_nil,List.drop_succ_cons,List.drop_zero,List.getElem?_cons_zero,decide_eq_true_eq,Nat.reduceLT,Nat.reduceLeDiff,Nat.reduceEqDiff,Nat.reduceAdd,Int.reduceToNat,Int.reduceLE,true_and,and_true,Cc,↓reduceIte,reduceCtorEq,Int.toNat_natCast,Int.natCast_nonneg,Nat.zero_add,List.cons.injEq,Bool.false_eq_true,Bool.true_and,Bool.and_true,Bool.or_false,Bool.or_true,beq_self_eq_true,Ox,Mm,Kc,Lm,Lb,hg0])
  (repeat' (first | (exfalso;omega)|(refine iteI (fun h=>?_) (fun h=>?_))|(refine B1 (by first | omega | (simp (disch:=omega) only [Aa,Ak,Ai] at *;omega)) ?_;intro b hb)|(refine And.intro (by first | omega | (simp (disch:=omega) only [Aa,Ak,Ai] at *;omega)) ?_)|((first | (refine Ba hm (by rfl) (by kernel_rfl) ?_));simp only [Dh])|(exact True.intro)|(exfalso;omega)))
  rw [List.take_of_length_le (Nat.le_of_eq hkl)]
 | .cons nm' t' r,h1,h2,h3,h4 =>
  rw [Rm] at h1
  rw [E9] at h2 h3
  rw [List.length_append] at h3
  have hkk:kids.list[k]? = some (nm',t'):=by
   have:=congrArg (·[0]?) h4
   simpa [Forest.list] using this
  have hpk:=Xg hkk
  have hpl:(Gd (kids.list.take k)).length=k:=by rw [Gc,List.length_take];omega
  have hw:=wj1 (i:=k) (by omega)
  have htk:=hw
  obtain ⟨k9,n9,s9,g9,e9,hgj⟩:=Jjq h2
  skip
  (refine Ax hm _ _ _ ?_;simp only [Cb,Ah,Bm,Br,Ce,Eh,Cn,Ab,Ci,B0,Bd,A1,Da,Bc,D9,Ct,Bf,A0,Ch,Cw,Ca,A9,Aj,B8,D0,Ed,C8,Cv,Df,F8,Cg,Bo,Bl,Bq,C2,Dq,Db,Dn,Au,Bt,Ar,G0,Dm,Eo,Cj,Ei,G8,C0,Gb,C5,Dd,Cu,G6,Lh,Ag,Ae,A3,Cf,Bv,Bi,Bz,Bx,A4,Bu,Fn,Di,B6,D2,Jl,Et,Ey,Bh,Az,A5,Ht,Ji,Il,Dg,Jg,Gp,Gr,Gs,Gu,Hu,Ho,Hc,F5,G5,E1,Gg,Kz,F2,Jk,Km,Av,Ap,Em,Ls,H5,Af,C3,Gj,Fl,D8,Dr,Du,Aw,B4,C4,Fy,Ez,G7,Jr,Ga,Cl,C7,El,Cz,F1,A2,Ad,Ac,Bn,Cq,Bg,Bb,Dy,List.map_cons,List.map_nil,List.getD_cons_zero,List.getD_cons_succ,List.length_cons,List.length_nil,List.append_nil,List.flatMap_cons,List.flatMap_nil,List.take_succ_cons,List.take_nil,List.drop_succ_cons,List.drop_zero,List.getElem?_cons_zero,decide_eq_true_eq,Nat.reduceLT,Nat.reduceLeDiff,Nat.reduceEqDiff,Nat.reduceAdd,Nat.reduceMul,Int.reduceToNat,Int.reduceLE,true_and,and_true,Cc,Bw,↓reduceIte,reduceCtorEq,Int.toNat_natCast,Int.natCast_nonneg,Nat.zero_add,List.cons.injEq,Bool.false_eq_true,Bool.true_and,Bool.and_true,Bool.or_false,Bool.or_true,beq_self_eq_true,Ox,Mm,L5,Kg,W6,Jfr,Kc,Lm,Lb,Tr,Ln,hg0,hpl,hgj])
  (repeat' (first | (refine iteI (fun h=>?_) (fun h=>?_))|(refine B1 (by first | omega | (simp (disch:=omega) only [Aa,Ak,Ai] at *;omega)) ?_;intro b hb)|(refine And.intro (by first | omega | (simp (disch:=omega) only [Aa,Ak,Ai] at *;omega)) ?_)|((first | (refine Ba hm (by rfl) (by kernel_rfl) ?_)|(refine Det.use (Lw v j nm' t' r.enc (by omega) h2) ?_)|(refine Det.useQ (Lw v j nm' t' r.enc (by omega) h2) ?_));simp only [Dh])|(exact True.intro)|(exfalso;omega)))
  refine ⟨by simp,by omega,by omega,?_⟩
  (repeat' (first | (refine iteI (fun h=>?_) (fun h=>?_))|(refine B1 (by first | omega | (simp (disch:=omega) only [Aa,Ak,Ai] at *;omega)) ?_;intro b hb)|(refine And.intro (by first | omega | (simp (disch:=omega) only [Aa,Ak,Ai] at *;omega)) ?_)|((first | (refine Ba hm (by rfl) (by kernel_rfl) ?_)|(refine Det.use (Lw v j nm' t' r.enc (by omega) h2) ?_)|(refine Det.useQ (Lw v j nm' t' r.enc (by omega) h2) ?_));simp only [Ah,Ab,Bk,Bd,A1,Bc,Ct,Bf,A0,Ca,A9,Aj,B8,Au,Bt,Ar,E8,Bp,B6,Ad,Ac,Dy,List.map_cons,List.map_nil,Nat.reduceLT,Nat.reduceEqDiff,Cc,↓reduceIte,reduceCtorEq,Bool.or_true,htk])|(exact True.intro)|(exfalso;omega)))
  refine ⟨(k+1,j+(t'.enc nm').length,r),⟨by simp only;omega,by simp only;rw [← List.drop_drop,h2,List.drop_left],by simp only;omega,by simp only;rw [← List.drop_drop,h4];rfl⟩,by have:=R7 t' nm';simp only [E9,List.length_append];omega,?_⟩
  simp only
  rw [hpk]
  exact (St.le_slots (by simp only [Cd,Ck,Ac,Be,Aq,Nat.reduceEqDiff,reduceIte,Nat.reduceLT,Nat.reduceLeDiff];simp (disch:=omega) [Aq,A8,Cm,Aa] <;> (repeat' apply And.intro) <;> omega) (by simp (disch:=omega) [Dc,Ee,C9,Bj,Aq,A8,Cm,Aa]) (by simp [De]))
end Go.LX
set_option maxRecDepth 100000
set_option maxHeartbeats 2000000
namespace Go.LX
open Go Go.RowKit Go.Proofs
attribute [local irreducible] B2 SWP Hb
def unn (l:List (List UInt8×Tree)):List (List UInt8×Tree):=l.map fun p=>([],p.2)
theorem Wc (l:List (List UInt8×Tree)):(unn l).length=l.length:=by simp [unn]
def hdK (k:Int) (n:Nat):List PV:=[.int .i64 k,.int .i64 n,.str [],.str [],.bool false,.int .i64 0]
theorem Z3 (l:List (List UInt8×Tree)) (k:Nat):(Ej (l.take k)).enc.length≤(Ej l).enc.length:=by
 have e1:Ej l=(Ej (l.take k)).app (Ej (l.drop k)):=by rw [← Sw,List.take_append_drop]
 rw [e1,Forest.enc_app,List.length_append];omega
theorem Zn {l:List (List UInt8×Tree)} {k:Nat} {p:List UInt8×Tree} (h:l[k]? = some p):(Ej (l.take (k+1))).enc=(Ej (l.take k)).enc ++ p.2.enc p.1:=by
 rw [List.take_add_one,h,Option.toList_some,Sw,Forest.enc_app]
 simp only [Ej,E9,J1,List.append_nil]
theorem Jcr (l:List (List UInt8×Tree)) (k:Nat):unn (l.take k)=(unn l).take k:=by simp [unn]
theorem Jq9 (l:List (List UInt8×Tree)) (hv:(Ej (unn l)).enc.length≤999999):Det cx 46 [.p (.sl (E3 l))] [] (.p (.sl (valL ((Tree.mk 5 [] false 0 (Ej (unn l))).enc [])))) []:=by
 have hll:=Forest.len_le (Ej (unn l))
 rw [Kk,Wc] at hll
 skip
 (refine B2.of_code (X:=cx) false [] (by simp) Tryz.func46 (by kernel_rfl) rfl (by simp only [List.length_cons,List.length_nil,Tryz.ntmps46];decide) (by simp) ?_;refine Ax hm _ _ _ ?_;simp only [Tryz.ntmps46,Tryz.results46,Ah,Bm,Ce,He,Ab,Bd,A1,Bc,Ct,Bf,A0,Ca,E4,A9,Aj,Ka,Dw,Df,Bo,Ds,D4,Jb,Jc,J9,Hr,Io,Mh,Cu,E5,Ag,Ae,A3,Ht,Ji,Il,Dg,Jg,Gp,Gr,Gs,Gu,Hu,Ho,B4,Ez,C7,El,Cz,F1,Ad,Ac,Bn,Bg,Bb,argW,List.map_cons,List.map_nil,List.length_cons,List.length_nil,List.set_cons_zero,List.set_cons_succ,Nat.reduceLT,Nat.reduceLeDiff,Nat.reduceAdd,Nat.reduceMul,true_and,Cc,↓reduceIte,reduceCtorEq,Nat.zero_add,Bool.true_and,Bool.and_true,beq_self_eq_true,and_self,Mm,Kc,Ps,Lm,Lb,Z5,Sd,Fo])
 (repeat' (first | (refine iteI (fun h=>?_) (fun h=>?_))|(refine B1 (by first | omega | (simp (disch:=omega) only [Aa,Ak,Ai] at *;omega)) ?_;intro b hb)|(refine And.intro (by first | omega | (simp (disch:=omega) only [Aa,Ak,Ai] at *;omega)) ?_)|((first | (refine Ba hm (by rfl) (by kernel_rfl) ?_));simp only [Dh])|(exact True.intro)|(exfalso;omega)))
 refine SWP.of_le (Jh [(8,20)] _ (by simp)) ?_
 simp only [Bu,Fn,Di,B6,D2,Ey,Af,C3,Gj,Fl,D8,Dr,Du,Cq,Bg,Bb,↓reduceIte]
 refine SWP.loop (fun x:Nat×Nat×List (List PV)=>⟨Fp 22 [(0,.p (.sl (E3 l))),(3,.own 20 0 x.2.1),(4,.p (.int .i64 x.1))],[(20,.row 53 6 x.2.2)]⟩) (fun x=>x.1≤l.length∧x.2.1=(Ej ((unn l).take x.1)).enc.length+1∧x.2.2=hdK 5 l.length :: valL (Ej ((unn l).take x.1)).enc) (fun x=>l.length - x.1) (0,1,[hdK 5 l.length]) (by unfold hdK;exact (St.le_slots (by simp only [Cd,Ck,Ac,Be,Aq,Nat.reduceEqDiff,reduceIte,Nat.reduceLT,Nat.reduceLeDiff];simp (disch:=omega) [Aq,A8,Cm,Aa] <;> (repeat' apply And.intro) <;> omega) (by simp (disch:=omega) [Dc,Ee,C9,Bj,Aq,A8,Cm,Aa]) (by simp [De]))) ⟨Nat.zero_le _,rfl,rfl⟩ ?_
 rintro ⟨k,m,es⟩ ⟨hk,hm',hes⟩
 simp only at hk hm' hes
 have hml:es.length=m:=by rw [hes,hm'];simp
 have htk:es.take m=es:=List.take_of_length_le (by omega)
 by_cases hlt:¬ k<l.length
 ·have htl:(unn l).take k=unn l:=List.take_of_length_le (by rw [Wc];omega)
  rw [htl] at hes hm'
  have hkl:((k:Int)<(l.length:Int))=False:=eq_false (by omega)
  have hpl:=hkl
  have hw:=hkl
  skip
  (refine Ax hm _ _ _ ?_;simp only [Ah,Bm,Br,Eh,Cn,Ab,Ci,B0,Bd,A1,Bc,Bf,A9,Aj,B8,Dw,Bq,Au,Ar,Dm,Ds,D4,Ag,Ae,E6,Fu,En,F4,Bs,Cs,Cr,A6,A7,B9,Av,Ap,Al,B7,B5,Af,Am,Ao,Co,Ay,Aw,Dx,Dk,I9,G9,A2,Ad,Ac,C6,Bg,Bb,Dy,List.map_cons,List.map_nil,List.drop_zero,decide_eq_true_eq,Nat.reduceLT,Nat.reduceEqDiff,and_true,Cc,↓reduceIte,reduceCtorEq,Nat.zero_add,L.p.injEq,Bool.and_true,Bool.or_false,Ps,Fo,hkl,hml,htk,Nat.le_refl])
  rw [hes,Gx,Kk,Wc]
  rfl
 ·have hlt:=Decidable.not_not.1 hlt
  obtain ⟨p,hp⟩:∃ p,l[k]? = some p:=⟨_,List.getElem?_eq_getElem hlt⟩
  have hpl:(E3 l)[k]? = some [.sl (valL (p.2.enc []))]:=by simp [E3,hp]
  have hup:(unn l)[k]? = some ([],p.2):=by simp [unn,hp]
  have hkl:((k:Int)<(l.length:Int))=True:=eq_true (by omega)
  have h1:=Zn hup
  have h2:=Z3 (unn l) (k+1)
  rw [h1,List.length_append] at h2
  have hw:=wj1 (i:=k) (by omega)
  skip
  (refine Ax hm _ _ _ ?_;simp only [Cb,Ah,Bm,Br,Ce,Ab,Bk,Bd,A1,Bc,Ct,Bf,A0,Ca,A9,Aj,B8,Ed,Cv,Dw,F8,Bo,Bl,Bq,Au,Bt,Ar,E8,Dm,Ds,D4,Eo,Cj,Ei,G8,C5,Dd,Cu,G6,Il,Hc,F5,P9,Me,Gg,Kz,Aw,B4,C4,Ez,G7,Jr,Ga,Ad,Ac,Bn,Bg,Bb,Dy,List.map_cons,List.map_nil,List.length_cons,List.length_nil,List.getElem?_cons_zero,decide_eq_true_eq,Nat.reduceLT,Nat.reduceEqDiff,Nat.reduceAdd,true_and,Cc,↓reduceIte,reduceCtorEq,Int.toNat_natCast,Int.natCast_nonneg,Nat.zero_add,Bool.true_and,Bool.or_false,Bool.or_true,Q1,Ng,Kc,Ps,Lx,Sd,Yv,Fo,hkl,hpl,hw,hml,Js])
  (repeat' (first | (refine iteI (fun h=>?_) (fun h=>?_))|(refine B1 (by first | omega | (simp (disch:=omega) only [Aa,Ak,Ai] at *;omega)) ?_;intro b hb)|(refine And.intro (by first | omega | (simp (disch:=omega) only [Aa,Ak,Ai] at *;omega)) ?_)|((first | (refine Ba hm (by rfl) (by kernel_rfl) ?_));simp only [Dh])|(exact True.intro)|(exfalso;omega)))
  simp only at h1 h2
  refine ⟨Pk _,by omega,by omega,(k+1,m+(p.2.enc []).length,es ++ valL (p.2.enc [])),⟨by simp only;omega,?_,?_⟩,by simp only;omega,?_⟩
  ·simp only
   rw [h1,List.length_append,hm'];omega
  ·simp only
   rw [h1,Ux,hes];rfl
  ·exact (St.le_slots (by simp only [Cd,Ck,Ac,Be,Aq,Nat.reduceEqDiff,reduceIte,Nat.reduceLT,Nat.reduceLeDiff];simp (disch:=omega) [Aq,A8,Cm,Aa] <;> (repeat' apply And.intro) <;> omega) (by simp (disch:=omega) [Dc,Ee,C9,Bj,Aq,A8,Cm,Aa]) (by simp [De]))
theorem Ua (l:List (List UInt8×Tree)) (hv:(Ej l).enc.length≤999999):Det cx 173 [.p (.sl (Gd l)),.p (.sl (E3 l))] [] (.p (.sl (valL ((Tree.mk 6 [] false 0 (Ej l)).enc [])))) []:=by
 have hll:=Forest.len_le (Ej l)
 rw [Kk] at hll
 skip
 (refine B2.of_code (X:=cx) false [] (by simp) Tryz.func173 (by kernel_rfl) rfl (by simp only [List.length_cons,List.length_nil,Tryz.ntmps173];decide) (by simp) ?_;refine Ax hm _ _ _ ?_;simp only [Tryz.ntmps173,Tryz.results173,Ah,Bm,Ce,He,Ab,Bd,A1,Bc,Ct,Bf,A0,Ca,E4,A9,Aj,Ka,Dw,Df,Bo,Ds,D4,Jb,Jc,J9,Hr,Io,Mh,Cu,E5,Ag,Ae,A3,Ht,Ji,Il,Dg,Jg,Gp,Gr,Gs,Gu,Hu,Ho,B4,Ez,C7,El,Cz,F1,Ad,Ac,Bn,Bg,Bb,argW,List.map_cons,List.map_nil,List.length_cons,List.length_nil,List.set_cons_zero,List.set_cons_succ,Nat.reduceLT,Nat.reduceLeDiff,Nat.reduceEqDiff,Nat.reduceAdd,Nat.reduceMul,true_and,Cc,↓reduceIte,reduceCtorEq,Nat.zero_add,Bool.true_and,Bool.and_true,beq_self_eq_true,and_self,Mm,Kc,Ps,Lm,Lb,Z5,Sd,Fo])
 (repeat' (first | (refine iteI (fun h=>?_) (fun h=>?_))|(refine B1 (by first | omega | (simp (disch:=omega) only [Aa,Ak,Ai] at *;omega)) ?_;intro b hb)|(refine And.intro (by first | omega | (simp (disch:=omega) only [Aa,Ak,Ai] at *;omega)) ?_)|((first | (refine Ba hm (by rfl) (by kernel_rfl) ?_));simp only [Dh])|(exact True.intro)|(exfalso;omega)))
 refine SWP.of_le (Jh [(12,26)] _ (by simp)) ?_
 simp only [Bu,Fn,Di,B6,D2,Ey,Af,C3,Gj,Fl,D8,Dr,Du,Cq,Bg,Bb,↓reduceIte]
 refine SWP.loop (fun x:Nat×Nat×List (List PV)=>⟨Fp 41 [(0,.p (.sl (Gd l))),(1,.p (.sl (E3 l))),(5,.own 26 0 x.2.1),(6,.p (.int .i64 x.1))],[(26,.row 53 6 x.2.2)]⟩) (fun x=>x.1≤l.length∧x.2.1=(Ej (l.take x.1)).enc.length+1∧x.2.2=hdK 6 l.length :: valL (Ej (l.take x.1)).enc) (fun x=>l.length - x.1) (0,1,[hdK 6 l.length]) (by unfold hdK;exact (St.le_slots (by simp only [Cd,Ck,Ac,Be,Aq,Nat.reduceEqDiff,reduceIte,Nat.reduceLT,Nat.reduceLeDiff];simp (disch:=omega) [Aq,A8,Cm,Aa] <;> (repeat' apply And.intro) <;> omega) (by simp (disch:=omega) [Dc,Ee,C9,Bj,Aq,A8,Cm,Aa]) (by simp [De]))) ⟨Nat.zero_le _,rfl,rfl⟩ ?_
 rintro ⟨k,m,es⟩ ⟨hk,hm',hes⟩
 simp only at hk hm' hes
 have hml:es.length=m:=by rw [hes,hm'];simp
 have htk:es.take m=es:=List.take_of_length_le (by omega)
 by_cases hlt:¬ k<l.length
 ·have htl:l.take k=l:=List.take_of_length_le (by omega)
  rw [htl] at hes hm'
  have hkl:((k:Int)<(l.length:Int))=False:=eq_false (by omega)
  have hpl:=hkl
  have hnl:=hkl
  have hge:=hkl
  have hsp:=hkl
  have hw:=hkl
  have hvl:=hkl
  skip
  (refine Ax hm _ _ _ ?_;simp only [Ah,Bm,Br,Eh,Cn,Ab,Ci,B0,Bd,A1,Bc,Bf,A9,Aj,B8,Dw,Bq,Au,Ar,Dm,Ds,D4,Ag,Ae,E6,Fu,En,F4,Bs,Cs,Cr,A6,A7,B9,Av,Ap,Al,B7,B5,Af,Am,Ao,Co,Ay,Aw,Dx,Dk,I9,G9,A2,Ad,Ac,C6,Bg,Bb,Dy,List.map_cons,List.map_nil,List.drop_zero,decide_eq_true_eq,Nat.reduceLT,Nat.reduceEqDiff,and_true,Cc,↓reduceIte,reduceCtorEq,Nat.zero_add,L.p.injEq,Bool.and_true,Bool.or_false,Ps,Fo,hkl,hml,htk,Nat.le_refl])
  rw [hes,Gx,Kk]
  rfl
 ·have hlt:=Decidable.not_not.1 hlt
  obtain ⟨p,hp⟩:∃ p,l[k]? = some p:=⟨_,List.getElem?_eq_getElem hlt⟩
  have hpl:(E3 l)[k]? = some [.sl (valL (p.2.enc []))]:=by simp [E3,hp]
  have hnl:(Gd l)[k]? = some [.str p.1]:=by simp [Gd,hp]
  have hkl:((k:Int)<(l.length:Int))=True:=eq_true (by omega)
  have h1:=Zn hp
  have h2:=Z3 l (k+1)
  rw [h1,List.length_append] at h2
  have hw:=wj1 (i:=k) (by omega)
  obtain ⟨⟨nm',t⟩,rfl⟩:∃ q,q=p:=⟨p,rfl⟩
  cases t with
  | mk kd' s' g' e' kids' =>
  have hge:(es ++ valL ((Tree.mk kd' s' g' e' kids').enc []))[m]? = some [.int .i64 kd',.int .i64 kids'.len,.str [],.str s',.bool g',.int .i64 e']:=by
   rw [List.getElem?_append_right (by omega),hml,Nat.sub_self,Gx];rfl
  have hsp:(es ++ valL ((Tree.mk kd' s' g' e' kids').enc [])).set m [.int .i64 kd',.int .i64 kids'.len,.str nm',.str s',.bool g',.int .i64 e']=es ++ valL ((Tree.mk kd' s' g' e' kids').enc nm'):=by
   rw [List.set_append_right _ _ (by omega),hml,Nat.sub_self,Gx,Gx];rfl
  have hvl:((Tree.mk kd' s' g' e' kids').enc []).length=((Tree.mk kd' s' g' e' kids').enc nm').length:=by rw [R8 _ nm']
  simp only at h1 h2
  skip
  (refine Ax hm _ _ _ ?_;simp only [Cb,Ah,Bm,Br,Ce,Ab,Bk,Bd,A1,Bc,C1,Ct,Bf,A0,Ca,A9,Aj,B8,Ed,Fk,C8,Cv,Dw,Hv,F8,Bo,Bl,Bq,Au,Bt,Ar,E8,Dm,Ds,D4,F3,Eo,Cj,Ei,Lj,Lg,G8,C0,G3,Jb,Jm3,C5,Dd,F7,G1,Jar,Gy,Hw,Cu,G6,E5,Lh,Iz,Vs,Vw,Vr,Sf,Fj,Ii,Ef,Oy,Ag,Ae,A3,Il,Hc,F5,P9,Me,Gg,Kz,Aw,B4,C4,Cp,Fy,Ez,G7,Jr,H8,Ga,C7,El,Cz,F1,Ad,Ac,Bn,Bg,Bb,Dy,List.map_cons,List.map_nil,List.length_cons,List.length_nil,List.cons_append,List.nil_append,List.append_nil,List.take_succ_cons,List.take_zero,List.take_nil,List.drop_succ_cons,List.drop_zero,List.drop_nil,List.getElem?_cons_zero,decide_eq_true_eq,ne_eq,not_false_eq_true,Nat.reduceLT,Nat.reduceLeDiff,Nat.reduceEqDiff,Nat.reduceAdd,true_and,Cc,↓reduceIte,reduceCtorEq,Int.toNat_natCast,Int.natCast_nonneg,Nat.zero_add,Bool.true_and,Bool.or_false,Bool.or_true,L5,Kg,Qx,Q1,Ng,Kc,Ps,Lx,Jpu,Jg0,Tr,Sd,Yv,Ln,Fo,hkl,hpl,hnl,hge,hsp,hw,hvl,hml,Nat.le_refl,Js])
  have hpos:=R7 (Tree.mk kd' s' g' e' kids') nm'
  refine ⟨Pk _,by omega,by omega,?_⟩
  (repeat' (first | (refine iteI (fun h=>?_) (fun h=>?_))|(refine B1 (by first | omega | (simp (disch:=omega) only [Aa,Ak,Ai] at *;omega)) ?_;intro b hb)|(refine And.intro (by first | omega | (simp (disch:=omega) only [Aa,Ak,Ai] at *;omega)) ?_)|((first | (refine Ba hm (by rfl) (by kernel_rfl) ?_));simp only [Dh])|(exact True.intro)|(exfalso;omega)))
  refine ⟨(k+1,m+((Tree.mk kd' s' g' e' kids').enc nm').length,es ++ valL ((Tree.mk kd' s' g' e' kids').enc nm')),⟨by simp only;omega,?_,?_⟩,by simp only;omega,?_⟩
  ·simp only
   rw [h1,List.length_append,hm'];omega
  ·simp only
   rw [h1,Ux,hes];rfl
  ·exact (St.le_slots (by simp only [Cd,Ck,Ac,Be,Aq,Nat.reduceEqDiff,reduceIte,Nat.reduceLT,Nat.reduceLeDiff];simp (disch:=omega) [Aq,A8,Cm,Aa] <;> (repeat' apply And.intro) <;> omega) (by simp (disch:=omega) [Dc,Ee,C9,Bj,Aq,A8,Cm,Aa]) (by simp [De]))
end Go.LX
