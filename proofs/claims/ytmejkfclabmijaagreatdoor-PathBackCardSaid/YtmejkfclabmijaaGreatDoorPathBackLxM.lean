/- Values, the document's answer: names. -/
import Derived.Test.YtmejkfclabmijaaGreatDoorPathBackLxL
set_option linter.unusedSimpArgs false
set_option linter.unusedVariables false
set_option linter.unusedSectionVars false
set_option linter.unnecessarySimpa false
set_option maxRecDepth 100000
set_option maxHeartbeats 2000000
namespace Go.LX
open Go Go.RowKit Go.Proofs
attribute [local irreducible] Bz SWP Gm
theorem Jen (nm:List UInt8) (s:List UInt8) (g:Bool) (e:Int) (kids:Forest) (hv:kids.enc.length≤999999):Det cx 44 [.p (.sl (valL ((Tree.mk 6 s g e kids).enc nm)))] [] (.p (.sl (Fq kids.list))) []:=by
 have hl:=Forest.len_le kids
 have hkl:=Forest.list_len kids
 generalize hvv:(Tree.mk 6 s g e kids).enc nm=v
 have h0:v.drop 0=⟨6,kids.len,nm,s,g,e⟩ :: kids.enc:=by rw [← hvv,Ga];rfl
 have hg0:=Ot h0
 rw [M1] at hg0
 have hvl:v.length=kids.enc.length+1:=by rw [← hvv,Ga];rfl
 skip
 (refine Bz.of_code (X:=cx) false [] (by simp) Tryz.func44 (by kernel_rfl) rfl (by simp only [List.length_cons,List.length_nil,Tryz.ntmps44];decide) (by simp) ?_;refine Ax hm _ _ _ ?_;simp only [Tryz.ntmps44,Tryz.results44,Ah,Bn,Ci,H9,Ab,Bd,A0,Bb,Cs,Be,Az,Cb,E1,Ai,Di,Bp,Cr,Ag,Ib,Jm,Ii,Dh,Jl,Gz,H7,B1,E6,Ad,Ac,Bl,Bf,A6,argW,List.map_cons,List.map_nil,List.length_cons,List.length_nil,Nat.reduceLT,Nat.reduceLeDiff,Nat.reduceMul,true_and,Ca,↓reduceIte,Nat.zero_add,Bool.true_and,Wn,K2])
 (repeat' (first | (refine iteI (fun h=>?_) (fun h=>?_))|(refine B2 (by first | omega | (simp (disch:=omega) only [Aa,Ak,Aj] at *;omega)) ?_;intro b hb)|(refine And.intro (by first | omega | (simp (disch:=omega) only [Aa,Ak,Aj] at *;omega)) ?_)|((first | (refine A9 hm (by rfl) (by kernel_rfl) ?_));simp only [Dm])|(exact True.intro)|(exfalso;omega)))
 refine SWP.of_le (Ix [(6,29)] _ (by simp)) ?_
 simp only [Bk,E8,C1,B3,Dl,Ek,Af,Ct,F3,Fa,Dx,C9,C8,Cg,Bf,A6,↓reduceIte]
 refine SWP.loop (fun x:Nat×Nat×Forest=>⟨Fo 34 [(0,.p (.sl (valL v))),(3,.own 29 0 x.1),(4,.p (.int .i64 x.2.1)),(5,.p (.int .i64 x.1))],[(29,.row 9 1 (Fq (kids.list.take x.1)))]⟩) (fun x=>x.1+x.2.2.len=kids.len∧v.drop x.2.1=x.2.2.enc∧x.2.1+x.2.2.enc.length=v.length∧kids.list.drop x.1=x.2.2.list) (fun x=>x.2.2.enc.length) (0,1,kids) (St.le_slots (by simp only [Ck,Cm,Ac,Bj,Au,Nat.reduceEqDiff,reduceIte,Nat.reduceLT,Nat.reduceLeDiff];simp (disch:=omega) [Au,Bc,Cq,Aa] <;> (repeat' apply And.intro) <;> omega) (by simp (disch:=omega) [Dj,Eo,Dg,Bh,Au,Bc,Cq,Aa]) (by simp [Dk])) ⟨by simp,by rw [← hvv,Ga];rfl,by simp only;omega,rfl⟩ ?_
 rintro ⟨k,j,F⟩ ⟨h1,h2,h3,h4⟩
 simp only at h1 h2 h3 h4 ⊢
 match F,h1,h2,h3,h4 with
 | .nil,h1,h2,h3,h4 =>
  simp only [Forest.len] at h1
  have hkk:k=kids.len:=by omega
  subst hkk
  have hpl:(kids.len≤(Fq (kids.list.take kids.len)).length)=True:=eq_true (by rw [Fp,List.length_take];omega)
  have htk:(Fq (kids.list.take kids.len)).take kids.len=Fq kids.list:=by
   rw [List.take_of_length_le (by rw [Fp,List.length_take];omega),List.take_of_length_le (by omega)]
  have hgj:=hpl
  skip
  (refine Ax hm _ _ _ ?_;simp only [Ch,Ah,Bn,Bs,Ci,Fd,Cn,Ab,Co,B4,Bd,A0,Dq,Bb,Ep,Be,Az,C0,Cb,Ba,Ai,B8,Em,D5,C2,Cp,Bg,Br,C6,D6,Du,D4,Av,B0,Aq,H0,D1,Eh,B7,D7,He,Cv,Gi,C5,C4,Ag,Ae,F8,Gq,Fk,Gs,Bt,Cy,Cz,A7,A8,B9,Aw,Ao,Al,B5,B6,Af,Am,Ap,Cl,A1,Ar,D8,Dv,Jg,J8,Oy,Hy,A2,Ad,Ac,Dc,Bf,A6,Ea,List.map_cons,List.map_nil,List.getD_cons_zero,List.getD_cons_succ,List.length_cons,List.length_nil,List.drop_succ_cons,List.drop_zero,List.getElem?_cons_zero,decide_eq_true_eq,Nat.reduceLT,Nat.reduceLeDiff,Nat.reduceEqDiff,Nat.reduceAdd,Int.reduceToNat,Int.reduceLE,true_and,Ca,↓reduceIte,reduceCtorEq,Int.toNat_natCast,Int.natCast_nonneg,Nat.zero_add,Bool.false_eq_true,Bool.true_and,Bool.or_false,Bool.or_true,beq_self_eq_true,and_self,Om,Mj,Jk,K1,Kj,hg0,hpl,htk])
  (repeat' (first | (exfalso;omega)|(refine iteI (fun h=>?_) (fun h=>?_))|(refine B2 (by first | omega | (simp (disch:=omega) only [Aa,Ak,Aj] at *;omega)) ?_;intro b hb)|(refine And.intro (by first | omega | (simp (disch:=omega) only [Aa,Ak,Aj] at *;omega)) ?_)|((first | (refine A9 hm (by rfl) (by kernel_rfl) ?_));simp only [Dm])|(exact True.intro)|(exfalso;omega)))
  skip
 | .cons nm' t' r,h1,h2,h3,h4 =>
  rw [Q3] at h1
  rw [Er] at h2 h3
  rw [List.length_append] at h3
  have hkk:kids.list[k]? = some (nm',t'):=by
   have:=congrArg (·[0]?) h4
   simpa [Forest.list] using this
  have hpk:=Wz hkk
  have hpl:(Fq (kids.list.take k)).length=k:=by rw [Fp,List.length_take];omega
  have hw:=wj1 (i:=k) (by omega)
  have htk:=hw
  obtain ⟨k9,n9,s9,g9,e9,hgj⟩:=Jk0 h2
  skip
  (refine Ax hm _ _ _ ?_;simp only [Ch,Ah,Bn,Bs,Ci,Fd,Cn,Ab,Co,B4,Bd,A0,Dq,Bb,Ep,Cs,Be,Az,Ce,C0,Cb,Ba,Ai,B8,Em,D5,C2,Cp,Di,Fy,Cc,Bp,Bg,Br,C6,D6,Du,D4,Av,B0,Aq,H0,D1,Eh,B7,D7,He,Cv,Gi,C5,C4,Cr,G1,Kx,Ag,Ae,A3,F8,Gq,Fk,Gs,Cd,Bv,Bm,Bx,Bw,A5,B3,Bi,Ay,A4,Ib,Jm,Ii,Dh,Jl,Gz,G8,Ha,G6,H7,H1,G0,F1,G3,E7,Gb,Km,F6,Jb,A8,B5,B6,Af,Am,Ap,Ar,B1,Cw,D8,Dv,Fv,E6,G2,I5,F5,Jg,J8,Oy,Hy,Cj,Ds,Fl,Db,Hf,A2,Ad,Ac,Bl,Dc,Bf,A6,Ea,List.map_cons,List.map_nil,List.getD_cons_zero,List.getD_cons_succ,List.length_cons,List.length_nil,List.append_nil,List.flatMap_cons,List.flatMap_nil,List.take_succ_cons,List.take_nil,List.drop_succ_cons,List.drop_zero,List.getElem?_cons_zero,decide_eq_true_eq,Nat.reduceLT,Nat.reduceLeDiff,Nat.reduceEqDiff,Nat.reduceAdd,Nat.reduceMul,Int.reduceToNat,Int.reduceLE,true_and,Ca,Bu,↓reduceIte,reduceCtorEq,Int.toNat_natCast,Int.natCast_nonneg,Nat.zero_add,Bool.false_eq_true,Bool.true_and,Bool.and_true,Bool.or_false,Bool.or_true,beq_self_eq_true,Om,Mj,L9,Kw,Wn,Jey,Jk,K1,Kj,Tb,K2,hg0,hpl,hgj])
  (repeat' (first | (refine iteI (fun h=>?_) (fun h=>?_))|(refine B2 (by first | omega | (simp (disch:=omega) only [Aa,Ak,Aj] at *;omega)) ?_;intro b hb)|(refine And.intro (by first | omega | (simp (disch:=omega) only [Aa,Ak,Aj] at *;omega)) ?_)|((first | (refine A9 hm (by rfl) (by kernel_rfl) ?_)|(refine Det.use (La v j nm' t' r.enc (by omega) h2) ?_)|(refine Det.useQ (La v j nm' t' r.enc (by omega) h2) ?_));simp only [Dm])|(exact True.intro)|(exfalso;omega)))
  refine ⟨by simp,by omega,by omega,?_⟩
  (repeat' (first | (refine iteI (fun h=>?_) (fun h=>?_))|(refine B2 (by first | omega | (simp (disch:=omega) only [Aa,Ak,Aj] at *;omega)) ?_;intro b hb)|(refine And.intro (by first | omega | (simp (disch:=omega) only [Aa,Ak,Aj] at *;omega)) ?_)|((first | (refine A9 hm (by rfl) (by kernel_rfl) ?_)|(refine Det.use (La v j nm' t' r.enc (by omega) h2) ?_)|(refine Det.useQ (La v j nm' t' r.enc (by omega) h2) ?_));simp only [Ah,Ab,Bo,Bd,A0,Bb,Cs,Be,Az,Cb,Ba,Ai,B8,Av,B0,Aq,Hb,Bq,B3,Ad,Ac,Ea,List.map_cons,List.map_nil,Nat.reduceLT,Nat.reduceEqDiff,Ca,↓reduceIte,reduceCtorEq,Bool.or_true,htk])|(exact True.intro)|(exfalso;omega)))
  refine ⟨(k+1,j+(t'.enc nm').length,r),⟨by simp only;omega,by simp only;rw [← List.drop_drop,h2,List.drop_left],by simp only;omega,by simp only;rw [← List.drop_drop,h4];rfl⟩,by have:=Rx t' nm';simp only [Er,List.length_append];omega,?_⟩
  simp only
  rw [hpk]
  exact (St.le_slots (by simp only [Ck,Cm,Ac,Bj,Au,Nat.reduceEqDiff,reduceIte,Nat.reduceLT,Nat.reduceLeDiff];simp (disch:=omega) [Au,Bc,Cq,Aa] <;> (repeat' apply And.intro) <;> omega) (by simp (disch:=omega) [Dj,Eo,Dg,Bh,Au,Bc,Cq,Aa]) (by simp [Dk]))
theorem Jm3 (nm:List UInt8) (s:List UInt8) (g:Bool) (e:Int) (kids:Forest) (hv:kids.enc.length≤999999):Det cx 44 [.p (.sl (valL ((Tree.mk 6 s g e kids).enc nm)))] [] (.own 900 0 kids.len) [(900,.row 9 1 (Fq kids.list))]:=by
 have hl:=Forest.len_le kids
 have hkl:=Forest.list_len kids
 generalize hvv:(Tree.mk 6 s g e kids).enc nm=v
 have h0:v.drop 0=⟨6,kids.len,nm,s,g,e⟩ :: kids.enc:=by rw [← hvv,Ga];rfl
 have hg0:=Ot h0
 rw [M1] at hg0
 have hvl:v.length=kids.enc.length+1:=by rw [← hvv,Ga];rfl
 skip
 (refine Bz.of_code (X:=cx) true [(29,900)] (by simp) Tryz.func44 (by kernel_rfl) rfl (by simp only [List.length_cons,List.length_nil,Tryz.ntmps44];decide) (by simp) ?_;refine Ax hm _ _ _ ?_;simp only [Tryz.ntmps44,Tryz.results44,Ah,Bn,Ci,H9,Ab,Bd,A0,Bb,Cs,Be,Az,Cb,E1,Ai,Di,Bp,Cr,Ag,Ib,Jm,Ii,Dh,Jl,Gz,H7,B1,E6,Ad,Ac,Bl,Bf,A6,argW,List.map_cons,List.map_nil,List.length_cons,List.length_nil,Nat.reduceLT,Nat.reduceLeDiff,Nat.reduceMul,true_and,Ca,↓reduceIte,Nat.zero_add,Bool.true_and,Wn,K2])
 (repeat' (first | (refine iteI (fun h=>?_) (fun h=>?_))|(refine B2 (by first | omega | (simp (disch:=omega) only [Aa,Ak,Aj] at *;omega)) ?_;intro b hb)|(refine And.intro (by first | omega | (simp (disch:=omega) only [Aa,Ak,Aj] at *;omega)) ?_)|((first | (refine A9 hm (by rfl) (by kernel_rfl) ?_));simp only [Dm])|(exact True.intro)|(exfalso;omega)))
 refine SWP.of_le (Ix [(6,29)] _ (by simp)) ?_
 simp only [Bk,E8,C1,B3,Dl,Ek,Af,Ct,F3,Fa,Dx,C9,C8,Cg,Bf,A6,↓reduceIte]
 refine SWP.loop (fun x:Nat×Nat×Forest=>⟨Fo 34 [(0,.p (.sl (valL v))),(3,.own 29 0 x.1),(4,.p (.int .i64 x.2.1)),(5,.p (.int .i64 x.1))],[(29,.row 9 1 (Fq (kids.list.take x.1)))]⟩) (fun x=>x.1+x.2.2.len=kids.len∧v.drop x.2.1=x.2.2.enc∧x.2.1+x.2.2.enc.length=v.length∧kids.list.drop x.1=x.2.2.list) (fun x=>x.2.2.enc.length) (0,1,kids) (St.le_slots (by simp only [Ck,Cm,Ac,Bj,Au,Nat.reduceEqDiff,reduceIte,Nat.reduceLT,Nat.reduceLeDiff];simp (disch:=omega) [Au,Bc,Cq,Aa] <;> (repeat' apply And.intro) <;> omega) (by simp (disch:=omega) [Dj,Eo,Dg,Bh,Au,Bc,Cq,Aa]) (by simp [Dk])) ⟨by simp,by rw [← hvv,Ga];rfl,by simp only;omega,rfl⟩ ?_
 rintro ⟨k,j,F⟩ ⟨h1,h2,h3,h4⟩
 simp only at h1 h2 h3 h4 ⊢
 match F,h1,h2,h3,h4 with
 | .nil,h1,h2,h3,h4 =>
  simp only [Forest.len] at h1
  have hkk:k=kids.len:=by omega
  subst hkk
  have hpl:(kids.len≤(Fq (kids.list.take kids.len)).length)=True:=eq_true (by rw [Fp,List.length_take];omega)
  have htk:(Fq (kids.list.take kids.len)).take kids.len=Fq kids.list:=by
   rw [List.take_of_length_le (by rw [Fp,List.length_take];omega),List.take_of_length_le (by omega)]
  have hgj:=hpl
  skip
  (refine Ax hm _ _ _ ?_;simp only [Ch,Ah,Bn,Bs,Ci,Fd,Cn,Ab,Co,B4,Bd,A0,Dq,Bb,Ep,Be,Az,C0,Cb,Ba,Ai,B8,Em,D5,C2,Cp,Bg,Br,C6,D6,Du,D4,Av,B0,Aq,H0,D1,Eh,B7,D7,He,Cv,Gi,C5,C4,Bk,E8,C1,B3,Dl,Il,Fc,Ek,Jx,Aw,Ao,D2,K6,Hl,Af,Ct,F3,Fa,Dx,C9,C8,Ar,A2,Ad,Ac,Cg,Bf,A6,Ea,List.map_cons,List.map_nil,List.getD_cons_zero,List.getD_cons_succ,List.length_cons,List.length_nil,List.drop_succ_cons,List.drop_zero,List.getElem?_cons_zero,decide_eq_true_eq,Nat.reduceLT,Nat.reduceLeDiff,Nat.reduceEqDiff,Nat.reduceAdd,Int.reduceToNat,Int.reduceLE,true_and,and_true,Ca,↓reduceIte,reduceCtorEq,Int.toNat_natCast,Int.natCast_nonneg,Nat.zero_add,List.cons.injEq,Bool.false_eq_true,Bool.true_and,Bool.and_true,Bool.or_false,Bool.or_true,beq_self_eq_true,Om,Mj,Jk,K1,Kj,hg0])
  (repeat' (first | (exfalso;omega)|(refine iteI (fun h=>?_) (fun h=>?_))|(refine B2 (by first | omega | (simp (disch:=omega) only [Aa,Ak,Aj] at *;omega)) ?_;intro b hb)|(refine And.intro (by first | omega | (simp (disch:=omega) only [Aa,Ak,Aj] at *;omega)) ?_)|((first | (refine A9 hm (by rfl) (by kernel_rfl) ?_));simp only [Dm])|(exact True.intro)|(exfalso;omega)))
  rw [List.take_of_length_le (Nat.le_of_eq hkl)]
 | .cons nm' t' r,h1,h2,h3,h4 =>
  rw [Q3] at h1
  rw [Er] at h2 h3
  rw [List.length_append] at h3
  have hkk:kids.list[k]? = some (nm',t'):=by
   have:=congrArg (·[0]?) h4
   simpa [Forest.list] using this
  have hpk:=Wz hkk
  have hpl:(Fq (kids.list.take k)).length=k:=by rw [Fp,List.length_take];omega
  have hw:=wj1 (i:=k) (by omega)
  have htk:=hw
  obtain ⟨k9,n9,s9,g9,e9,hgj⟩:=Jk0 h2
  skip
  (refine Ax hm _ _ _ ?_;simp only [Ch,Ah,Bn,Bs,Ci,Fd,Cn,Ab,Co,B4,Bd,A0,Dq,Bb,Ep,Cs,Be,Az,Ce,C0,Cb,Ba,Ai,B8,Em,D5,C2,Cp,Di,Fy,Cc,Bp,Bg,Br,C6,D6,Du,D4,Av,B0,Aq,H0,D1,Eh,B7,D7,He,Cv,Gi,C5,C4,Cr,G1,Kx,Ag,Ae,A3,Cd,Bv,Bm,Bx,Bw,A5,Bk,E8,C1,B3,Dl,Il,Fc,Ek,Bi,Ay,A4,Ib,Jm,Ii,Dh,Jl,Gz,G8,Ha,G6,H7,H1,G0,F1,G3,E7,Gb,Km,F6,Jb,Jx,Aw,Ao,D2,K6,Hl,Af,Ct,F3,Fa,Dx,C9,C8,Ar,B1,Cw,Fv,E6,G2,I5,F5,Cj,Ds,Fl,Db,Hf,A2,Ad,Ac,Bl,Cg,Bf,A6,Ea,List.map_cons,List.map_nil,List.getD_cons_zero,List.getD_cons_succ,List.length_cons,List.length_nil,List.append_nil,List.flatMap_cons,List.flatMap_nil,List.take_succ_cons,List.take_nil,List.drop_succ_cons,List.drop_zero,List.getElem?_cons_zero,decide_eq_true_eq,Nat.reduceLT,Nat.reduceLeDiff,Nat.reduceEqDiff,Nat.reduceAdd,Nat.reduceMul,Int.reduceToNat,Int.reduceLE,true_and,and_true,Ca,Bu,↓reduceIte,reduceCtorEq,Int.toNat_natCast,Int.natCast_nonneg,Nat.zero_add,List.cons.injEq,Bool.false_eq_true,Bool.true_and,Bool.and_true,Bool.or_false,Bool.or_true,beq_self_eq_true,Om,Mj,L9,Kw,Wn,Jey,Jk,K1,Kj,Tb,K2,hg0,hpl,hgj])
  (repeat' (first | (refine iteI (fun h=>?_) (fun h=>?_))|(refine B2 (by first | omega | (simp (disch:=omega) only [Aa,Ak,Aj] at *;omega)) ?_;intro b hb)|(refine And.intro (by first | omega | (simp (disch:=omega) only [Aa,Ak,Aj] at *;omega)) ?_)|((first | (refine A9 hm (by rfl) (by kernel_rfl) ?_)|(refine Det.use (La v j nm' t' r.enc (by omega) h2) ?_)|(refine Det.useQ (La v j nm' t' r.enc (by omega) h2) ?_));simp only [Dm])|(exact True.intro)|(exfalso;omega)))
  refine ⟨by simp,by omega,by omega,?_⟩
  (repeat' (first | (refine iteI (fun h=>?_) (fun h=>?_))|(refine B2 (by first | omega | (simp (disch:=omega) only [Aa,Ak,Aj] at *;omega)) ?_;intro b hb)|(refine And.intro (by first | omega | (simp (disch:=omega) only [Aa,Ak,Aj] at *;omega)) ?_)|((first | (refine A9 hm (by rfl) (by kernel_rfl) ?_)|(refine Det.use (La v j nm' t' r.enc (by omega) h2) ?_)|(refine Det.useQ (La v j nm' t' r.enc (by omega) h2) ?_));simp only [Ah,Ab,Bo,Bd,A0,Bb,Cs,Be,Az,Cb,Ba,Ai,B8,Av,B0,Aq,Hb,Bq,B3,Ad,Ac,Ea,List.map_cons,List.map_nil,Nat.reduceLT,Nat.reduceEqDiff,Ca,↓reduceIte,reduceCtorEq,Bool.or_true,htk])|(exact True.intro)|(exfalso;omega)))
  refine ⟨(k+1,j+(t'.enc nm').length,r),⟨by simp only;omega,by simp only;rw [← List.drop_drop,h2,List.drop_left],by simp only;omega,by simp only;rw [← List.drop_drop,h4];rfl⟩,by have:=Rx t' nm';simp only [Er,List.length_append];omega,?_⟩
  simp only
  rw [hpk]
  exact (St.le_slots (by simp only [Ck,Cm,Ac,Bj,Au,Nat.reduceEqDiff,reduceIte,Nat.reduceLT,Nat.reduceLeDiff];simp (disch:=omega) [Au,Bc,Cq,Aa] <;> (repeat' apply And.intro) <;> omega) (by simp (disch:=omega) [Dj,Eo,Dg,Bh,Au,Bc,Cq,Aa]) (by simp [Dk]))
end Go.LX
set_option maxRecDepth 100000
set_option maxHeartbeats 2000000
namespace Go.LX
open Go Go.RowKit Go.Proofs
attribute [local irreducible] Bz SWP Gm
def unn (l:List (List UInt8×Tree)):List (List UInt8×Tree):=l.map fun p=>([],p.2)
theorem Vs (l:List (List UInt8×Tree)):(unn l).length=l.length:=by simp [unn]
def hdK (k:Int) (n:Nat):List PV:=[.int .i64 k,.int .i64 n,.str [],.str [],.bool false,.int .i64 0]
theorem Yy (l:List (List UInt8×Tree)) (k:Nat):(Dz (l.take k)).enc.length≤(Dz l).enc.length:=by
 have e1:Dz l=(Dz (l.take k)).app (Dz (l.drop k)):=by rw [← Sx,List.take_append_drop]
 rw [e1,Forest.enc_app,List.length_append];omega
theorem Z4 {l:List (List UInt8×Tree)} {k:Nat} {p:List UInt8×Tree} (h:l[k]? = some p):(Dz (l.take (k+1))).enc=(Dz (l.take k)).enc ++ p.2.enc p.1:=by
 rw [List.take_add_one,h,Option.toList_some,Sx,Forest.enc_app]
 simp only [Dz,Er,Jf,List.append_nil]
theorem Jdx (l:List (List UInt8×Tree)) (k:Nat):unn (l.take k)=(unn l).take k:=by simp [unn]
theorem Jpl (l:List (List UInt8×Tree)) (hv:(Dz (unn l)).enc.length≤999999):Det cx 46 [.p (.sl (El l))] [] (.p (.sl (valL ((Tree.mk 5 [] false 0 (Dz (unn l))).enc [])))) []:=by
 have hll:=Forest.len_le (Dz (unn l))
 rw [Jv,Vs] at hll
 skip
 (refine Bz.of_code (X:=cx) false [] (by simp) Tryz.func46 (by kernel_rfl) rfl (by simp only [List.length_cons,List.length_nil,Tryz.ntmps46];decide) (by simp) ?_;refine Ax hm _ _ _ ?_;simp only [Tryz.ntmps46,Tryz.results46,Ah,Bn,Ci,H9,Ab,Bd,A0,Bb,Cs,Be,Az,Cb,E1,Ba,Ai,N0,Eg,Di,Bp,D9,D0,K7,L6,N1,Kd,Lh,N7,Cr,Gj,Ag,Ae,A3,Ib,Jm,Ii,Dh,Jl,Gz,G8,Ha,G6,H7,H1,B1,E6,Ds,Fl,Db,Hf,Ad,Ac,Bl,Bf,A6,argW,List.map_cons,List.map_nil,List.length_cons,List.length_nil,List.set_cons_zero,List.set_cons_succ,Nat.reduceLT,Nat.reduceLeDiff,Nat.reduceAdd,Nat.reduceMul,true_and,Ca,↓reduceIte,reduceCtorEq,Nat.zero_add,Bool.true_and,Bool.and_true,beq_self_eq_true,and_self,Mj,Jk,O4,K1,Kj,Yj,Rr,E5])
 (repeat' (first | (refine iteI (fun h=>?_) (fun h=>?_))|(refine B2 (by first | omega | (simp (disch:=omega) only [Aa,Ak,Aj] at *;omega)) ?_;intro b hb)|(refine And.intro (by first | omega | (simp (disch:=omega) only [Aa,Ak,Aj] at *;omega)) ?_)|((first | (refine A9 hm (by rfl) (by kernel_rfl) ?_));simp only [Dm])|(exact True.intro)|(exfalso;omega)))
 refine SWP.of_le (Ix [(8,20)] _ (by simp)) ?_
 simp only [Bk,E8,C1,B3,Dl,Ek,Af,Ct,F3,Fa,Dx,C9,C8,Cg,Bf,A6,↓reduceIte]
 refine SWP.loop (fun x:Nat×Nat×List (List PV)=>⟨Fo 22 [(0,.p (.sl (El l))),(3,.own 20 0 x.2.1),(4,.p (.int .i64 x.1))],[(20,.row 53 6 x.2.2)]⟩) (fun x=>x.1≤l.length∧x.2.1=(Dz ((unn l).take x.1)).enc.length+1∧x.2.2=hdK 5 l.length :: valL (Dz ((unn l).take x.1)).enc) (fun x=>l.length - x.1) (0,1,[hdK 5 l.length]) (by unfold hdK;exact (St.le_slots (by simp only [Ck,Cm,Ac,Bj,Au,Nat.reduceEqDiff,reduceIte,Nat.reduceLT,Nat.reduceLeDiff];simp (disch:=omega) [Au,Bc,Cq,Aa] <;> (repeat' apply And.intro) <;> omega) (by simp (disch:=omega) [Dj,Eo,Dg,Bh,Au,Bc,Cq,Aa]) (by simp [Dk]))) ⟨Nat.zero_le _,rfl,rfl⟩ ?_
 rintro ⟨k,m,es⟩ ⟨hk,hm',hes⟩
 simp only at hk hm' hes
 have hml:es.length=m:=by rw [hes,hm'];simp
 have htk:es.take m=es:=List.take_of_length_le (by omega)
 by_cases hlt:¬ k<l.length
 ·have htl:(unn l).take k=unn l:=List.take_of_length_le (by rw [Vs];omega)
  rw [htl] at hes hm'
  have hkl:((k:Int)<(l.length:Int))=False:=eq_false (by omega)
  have hpl:=hkl
  have hw:=hkl
  skip
  (refine Ax hm _ _ _ ?_;simp only [Ah,Bn,Bs,Fd,Cn,Ab,Co,B4,Bd,A0,Bb,Be,Ba,Ai,B8,Eg,Br,Av,Aq,D1,D9,D0,Ag,Ae,F8,Gq,Fk,Gs,Bt,Cy,Cz,A7,A8,B9,Aw,Ao,Al,B5,B6,Af,Am,Ap,Cl,A1,Ar,D8,Dv,Jg,Hy,A2,Ad,Ac,Dc,Bf,A6,Ea,List.map_cons,List.map_nil,List.drop_zero,decide_eq_true_eq,Nat.reduceLT,Nat.reduceEqDiff,and_true,Ca,↓reduceIte,reduceCtorEq,Nat.zero_add,L.p.injEq,Bool.and_true,Bool.or_false,O4,E5,hkl,hml,htk,Nat.le_refl])
  rw [hes,Ga,Jv,Vs]
  rfl
 ·have hlt:=Decidable.not_not.1 hlt
  obtain ⟨p,hp⟩:∃ p,l[k]? = some p:=⟨_,List.getElem?_eq_getElem hlt⟩
  have hpl:(El l)[k]? = some [.sl (valL (p.2.enc []))]:=by simp [El,hp]
  have hup:(unn l)[k]? = some ([],p.2):=by simp [unn,hp]
  have hkl:((k:Int)<(l.length:Int))=True:=eq_true (by omega)
  have h1:=Z4 hup
  have h2:=Yy (unn l) (k+1)
  rw [h1,List.length_append] at h2
  have hw:=wj1 (i:=k) (by omega)
  skip
  (refine Ax hm _ _ _ ?_;simp only [Ch,Ah,Bn,Bs,Ci,Ab,Bo,Bd,A0,Bb,Cs,Be,Az,Cb,Ba,Ai,B8,D5,Cp,Eg,Fy,Bp,Bg,Br,Av,B0,Aq,Hb,D1,D9,D0,Eh,B7,D7,He,C5,C4,Cr,G1,Ii,G0,F1,Pr,Lu,Gb,Km,Ar,B1,Cw,E6,G2,I5,F5,Ad,Ac,Bl,Bf,A6,Ea,List.map_cons,List.map_nil,List.length_cons,List.length_nil,List.getElem?_cons_zero,decide_eq_true_eq,Nat.reduceLT,Nat.reduceEqDiff,Nat.reduceAdd,true_and,Ca,↓reduceIte,reduceCtorEq,Int.toNat_natCast,Int.natCast_nonneg,Nat.zero_add,Bool.true_and,Bool.or_false,Bool.or_true,Qa,Mx,Jk,O4,Ld,Rr,Xa,E5,hkl,hpl,hw,hml,Iz])
  (repeat' (first | (refine iteI (fun h=>?_) (fun h=>?_))|(refine B2 (by first | omega | (simp (disch:=omega) only [Aa,Ak,Aj] at *;omega)) ?_;intro b hb)|(refine And.intro (by first | omega | (simp (disch:=omega) only [Aa,Ak,Aj] at *;omega)) ?_)|((first | (refine A9 hm (by rfl) (by kernel_rfl) ?_));simp only [Dm])|(exact True.intro)|(exfalso;omega)))
  simp only at h1 h2
  refine ⟨Ou _,by omega,by omega,(k+1,m+(p.2.enc []).length,es ++ valL (p.2.enc [])),⟨by simp only;omega,?_,?_⟩,by simp only;omega,?_⟩
  ·simp only
   rw [h1,List.length_append,hm'];omega
  ·simp only
   rw [h1,U3,hes];rfl
  ·exact (St.le_slots (by simp only [Ck,Cm,Ac,Bj,Au,Nat.reduceEqDiff,reduceIte,Nat.reduceLT,Nat.reduceLeDiff];simp (disch:=omega) [Au,Bc,Cq,Aa] <;> (repeat' apply And.intro) <;> omega) (by simp (disch:=omega) [Dj,Eo,Dg,Bh,Au,Bc,Cq,Aa]) (by simp [Dk]))
theorem S8 (l:List (List UInt8×Tree)) (hv:(Dz l).enc.length≤999999):Det cx 173 [.p (.sl (Fq l)),.p (.sl (El l))] [] (.p (.sl (valL ((Tree.mk 6 [] false 0 (Dz l)).enc [])))) []:=by
 have hll:=Forest.len_le (Dz l)
 rw [Jv] at hll
 skip
 (refine Bz.of_code (X:=cx) false [] (by simp) Tryz.func173 (by kernel_rfl) rfl (by simp only [List.length_cons,List.length_nil,Tryz.ntmps173];decide) (by simp) ?_;refine Ax hm _ _ _ ?_;simp only [Tryz.ntmps173,Tryz.results173,Ah,Bn,Ci,H9,Ab,Bd,A0,Bb,Cs,Be,Az,Cb,E1,Ba,Ai,N0,Eg,Di,Bp,D9,D0,K7,L6,N1,Kd,Lh,N7,Cr,Gj,Ag,Ae,A3,Ib,Jm,Ii,Dh,Jl,Gz,G8,Ha,G6,H7,H1,B1,E6,Ds,Fl,Db,Hf,Ad,Ac,Bl,Bf,A6,argW,List.map_cons,List.map_nil,List.length_cons,List.length_nil,List.set_cons_zero,List.set_cons_succ,Nat.reduceLT,Nat.reduceLeDiff,Nat.reduceEqDiff,Nat.reduceAdd,Nat.reduceMul,true_and,Ca,↓reduceIte,reduceCtorEq,Nat.zero_add,Bool.true_and,Bool.and_true,beq_self_eq_true,and_self,Mj,Jk,O4,K1,Kj,Yj,Rr,E5])
 (repeat' (first | (refine iteI (fun h=>?_) (fun h=>?_))|(refine B2 (by first | omega | (simp (disch:=omega) only [Aa,Ak,Aj] at *;omega)) ?_;intro b hb)|(refine And.intro (by first | omega | (simp (disch:=omega) only [Aa,Ak,Aj] at *;omega)) ?_)|((first | (refine A9 hm (by rfl) (by kernel_rfl) ?_));simp only [Dm])|(exact True.intro)|(exfalso;omega)))
 refine SWP.of_le (Ix [(12,26)] _ (by simp)) ?_
 simp only [Bk,E8,C1,B3,Dl,Ek,Af,Ct,F3,Fa,Dx,C9,C8,Cg,Bf,A6,↓reduceIte]
 refine SWP.loop (fun x:Nat×Nat×List (List PV)=>⟨Fo 41 [(0,.p (.sl (Fq l))),(1,.p (.sl (El l))),(5,.own 26 0 x.2.1),(6,.p (.int .i64 x.1))],[(26,.row 53 6 x.2.2)]⟩) (fun x=>x.1≤l.length∧x.2.1=(Dz (l.take x.1)).enc.length+1∧x.2.2=hdK 6 l.length :: valL (Dz (l.take x.1)).enc) (fun x=>l.length - x.1) (0,1,[hdK 6 l.length]) (by unfold hdK;exact (St.le_slots (by simp only [Ck,Cm,Ac,Bj,Au,Nat.reduceEqDiff,reduceIte,Nat.reduceLT,Nat.reduceLeDiff];simp (disch:=omega) [Au,Bc,Cq,Aa] <;> (repeat' apply And.intro) <;> omega) (by simp (disch:=omega) [Dj,Eo,Dg,Bh,Au,Bc,Cq,Aa]) (by simp [Dk]))) ⟨Nat.zero_le _,rfl,rfl⟩ ?_
 rintro ⟨k,m,es⟩ ⟨hk,hm',hes⟩
 simp only at hk hm' hes
 have hml:es.length=m:=by rw [hes,hm'];simp
 have htk:es.take m=es:=List.take_of_length_le (by omega)
 by_cases hlt:¬ k<l.length
 ·have htl:l.take k=l:=List.take_of_length_le (by omega)
  rw [htl] at hes hm'
  have hkl:((k:Int)<(l.length:Int))=False:=eq_false (by omega)
  have hpl:=hkl
  have hnl:=hkl
  have hge:=hkl
  have hsp:=hkl
  have hw:=hkl
  have hvl:=hkl
  skip
  (refine Ax hm _ _ _ ?_;simp only [Ah,Bn,Bs,Fd,Cn,Ab,Co,B4,Bd,A0,Bb,Be,Ba,Ai,B8,Eg,Br,Av,Aq,D1,D9,D0,Ag,Ae,F8,Gq,Fk,Gs,Bt,Cy,Cz,A7,A8,B9,Aw,Ao,Al,B5,B6,Af,Am,Ap,Cl,A1,Ar,D8,Dv,Jg,Hy,A2,Ad,Ac,Dc,Bf,A6,Ea,List.map_cons,List.map_nil,List.drop_zero,decide_eq_true_eq,Nat.reduceLT,Nat.reduceEqDiff,and_true,Ca,↓reduceIte,reduceCtorEq,Nat.zero_add,L.p.injEq,Bool.and_true,Bool.or_false,O4,E5,hkl,hml,htk,Nat.le_refl])
  rw [hes,Ga,Jv]
  rfl
 ·have hlt:=Decidable.not_not.1 hlt
  obtain ⟨p,hp⟩:∃ p,l[k]? = some p:=⟨_,List.getElem?_eq_getElem hlt⟩
  have hpl:(El l)[k]? = some [.sl (valL (p.2.enc []))]:=by simp [El,hp]
  have hnl:(Fq l)[k]? = some [.str p.1]:=by simp [Fq,hp]
  have hkl:((k:Int)<(l.length:Int))=True:=eq_true (by omega)
  have h1:=Z4 hp
  have h2:=Yy l (k+1)
  rw [h1,List.length_append] at h2
  have hw:=wj1 (i:=k) (by omega)
  obtain ⟨⟨nm',t⟩,rfl⟩:∃ q,q=p:=⟨p,rfl⟩
  cases t with
  | mk kd' s' g' e' kids' =>
  have hge:(es ++ valL ((Tree.mk kd' s' g' e' kids').enc []))[m]? = some [.int .i64 kd',.int .i64 kids'.len,.str [],.str s',.bool g',.int .i64 e']:=by
   rw [List.getElem?_append_right (by omega),hml,Nat.sub_self,Ga];rfl
  have hsp:(es ++ valL ((Tree.mk kd' s' g' e' kids').enc [])).set m [.int .i64 kd',.int .i64 kids'.len,.str nm',.str s',.bool g',.int .i64 e']=es ++ valL ((Tree.mk kd' s' g' e' kids').enc nm'):=by
   rw [List.set_append_right _ _ (by omega),hml,Nat.sub_self,Ga,Ga];rfl
  have hvl:((Tree.mk kd' s' g' e' kids').enc []).length=((Tree.mk kd' s' g' e' kids').enc nm').length:=by rw [Rp _ nm']
  simp only at h1 h2
  skip
  (refine Ax hm _ _ _ ?_;simp only [Ch,Ah,Bn,Bs,Ci,Ab,Bo,Bd,A0,Bb,Dd,Cs,Be,Az,Cb,Ba,Ai,B8,D5,Gn,C2,Cp,Eg,H2,Fy,Bp,Bg,Br,Av,B0,Aq,Hb,D1,D9,D0,Gg,Eh,B7,D7,Kr,Ku,He,Cv,Gd,K7,Jlm,C5,C4,Iq,Jj,Zp,G7,H5,Cr,G1,Gj,Kx,Jw,Vb,T9,U4,Rs,Gl,Jc,Fj,Ob,Ag,Ae,A3,Ii,G0,F1,Pr,Lu,Gb,Km,Ar,B1,Cw,Cu,Fv,E6,G2,I5,H3,F5,Ds,Fl,Db,Hf,Ad,Ac,Bl,Bf,A6,Ea,List.map_cons,List.map_nil,List.length_cons,List.length_nil,List.cons_append,List.nil_append,List.append_nil,List.take_succ_cons,List.take_zero,List.take_nil,List.drop_succ_cons,List.drop_zero,List.drop_nil,List.getElem?_cons_zero,decide_eq_true_eq,ne_eq,not_false_eq_true,Nat.reduceLT,Nat.reduceLeDiff,Nat.reduceEqDiff,Nat.reduceAdd,true_and,Ca,↓reduceIte,reduceCtorEq,Int.toNat_natCast,Int.natCast_nonneg,Nat.zero_add,Bool.true_and,Bool.or_false,Bool.or_true,L9,Kw,Qb,Qa,Mx,Jk,O4,Ld,Jom,Jfx,Tb,Rr,Xa,K2,E5,hkl,hpl,hnl,hge,hsp,hw,hvl,hml,Nat.le_refl,Iz])
  have hpos:=Rx (Tree.mk kd' s' g' e' kids') nm'
  refine ⟨Ou _,by omega,by omega,?_⟩
  (repeat' (first | (refine iteI (fun h=>?_) (fun h=>?_))|(refine B2 (by first | omega | (simp (disch:=omega) only [Aa,Ak,Aj] at *;omega)) ?_;intro b hb)|(refine And.intro (by first | omega | (simp (disch:=omega) only [Aa,Ak,Aj] at *;omega)) ?_)|((first | (refine A9 hm (by rfl) (by kernel_rfl) ?_));simp only [Dm])|(exact True.intro)|(exfalso;omega)))
  refine ⟨(k+1,m+((Tree.mk kd' s' g' e' kids').enc nm').length,es ++ valL ((Tree.mk kd' s' g' e' kids').enc nm')),⟨by simp only;omega,?_,?_⟩,by simp only;omega,?_⟩
  ·simp only
   rw [h1,List.length_append,hm'];omega
  ·simp only
   rw [h1,U3,hes];rfl
  ·exact (St.le_slots (by simp only [Ck,Cm,Ac,Bj,Au,Nat.reduceEqDiff,reduceIte,Nat.reduceLT,Nat.reduceLeDiff];simp (disch:=omega) [Au,Bc,Cq,Aa] <;> (repeat' apply And.intro) <;> omega) (by simp (disch:=omega) [Dj,Eo,Dg,Bh,Au,Bc,Cq,Aa]) (by simp [Dk]))
end Go.LX
