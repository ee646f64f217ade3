/- Values: parts and names, handed on; rows of values as one. -/
import Derived.Test.YtmejkfclabmijaaGreatDoorPathBackLxK
set_option linter.unusedSimpArgs false
set_option linter.unusedVariables false
set_option linter.unusedSectionVars false
set_option linter.unnecessarySimpa false
set_option maxRecDepth 100000
set_option maxHeartbeats 2000000
namespace Go.LX
open Go Go.RowKit Go.Proofs
attribute [local irreducible] Bz SWP Gm
theorem Jnp (nm:List UInt8) (kd:Int) (s:List UInt8) (g:Bool) (e:Int) (kids:Forest) (hv:kids.enc.length≤999999):Det cx 62 [.p (.sl (valL ((Tree.mk kd s g e kids).enc nm)))] [] (.own 900 0 kids.len) [(900,.row 34 1 (El kids.list))]:=by
 have hll:=Forest.len_le kids
 have hfl:=Forest.list_len kids
 (refine Bz.of_code (X:=cx) true [(990,900),(500,900)] (by simp) Tryz.func62 (by kernel_rfl) rfl (by simp only [List.length_cons,List.length_nil,Tryz.ntmps62];decide) (by simp) ?_;refine Ax hm _ _ _ ?_;simp only [Tryz.ntmps62,Tryz.results62,Ah,Bn,Ab,Bd,A0,Bb,Cs,Be,Az,Ce,E1,Ba,Ai,H2,Cc,Bp,G7,H5,Cr,Ag,Ae,A3,Cd,Bv,Bm,Bx,Bw,A5,B3,Bi,Ay,A4,B1,E6,Cj,Ad,Ac,Bl,Bf,A6,argW,List.map_cons,List.map_nil,List.append_nil,List.flatMap_cons,List.flatMap_nil,Nat.reduceLT,Nat.reduceEqDiff,true_and,Ca,Bu,↓reduceIte,reduceCtorEq,Bool.true_and,Jop])
 (repeat' (first | (refine iteI (fun h=>?_) (fun h=>?_))|(refine B2 (by first | omega | (simp (disch:=omega) only [Aa,Ak,Aj] at *;omega)) ?_;intro b hb)|(refine And.intro (by first | omega | (simp (disch:=omega) only [Aa,Ak,Aj] at *;omega)) ?_)|((first | (refine A9 hm (by rfl) (by kernel_rfl) ?_)|(refine Det.use (R5 _) ?_)|(refine Det.useQ (R5 _) ?_));simp only [Ci,Ab,Bd,Cs,H4,Hv,Dn,G4,Gc,Df,Gu,Hm,K8,E4,E2,Hr,G9,Gv,Jd,Bk,I4,Gx,Fh,Fx,Dy,B3,E3,Tk,F9,Xe,Ar,Ds,Fl,Db,Ad,Cg,Bf,A6,List.map_cons,List.map_nil,List.cons_append,List.nil_append,decide_eq_true_eq,ne_eq,not_false_eq_true,Nat.reduceLT,Nat.reduceEqDiff,↓reduceIte])|(exact True.intro)|(exfalso;omega)))
 refine SWP.of_le (St.le_nilCell _ (b:=3) (j:=0) (d:=500) 34 1 (.inl (by decide)) (T':=44) (cs:=[.p .snil]) rfl rfl) ?_
 simp only [St.nilCell,St.nilReg,X9,Jh6,Jhy,Ar,B1,Cw,Cu,Hw,E6,H3,Jgw,Bl,Bf,A6,List.map_cons,List.map_nil,List.contains_cons,List.contains_nil,List.set_cons_zero,Nat.reduceEqDiff,Nat.reduceBEq,↓reduceIte,Bool.false_eq_true,Bool.or_false]
 (refine SWP.range (Mh kids) 15 [(13,500000)] (by simp) _ _ _ _ _ (fun k R=>R=[(500000,.row 34 1 (El (kids.list.take k))),(1001,.var 44 [.own 500000 0 k])]) (fun _ _=>False) (by rfl) (by rfl) (by rfl) (Jc2 nm kd s g e kids hv) (by simp only [Gs,D8,Dv,Kt,Nj,Jg,Kb,Xg,Zk,Dc,Bf,A6,List.map_cons,List.map_nil,List.contains_cons,List.contains_nil,Nat.reduceEqDiff,↓reduceIte,Bool.or_false,beq_self_eq_true] <;> rfl) (by first | rfl | simp [Jz]) (by simp) ?hps (by simp only [Su,Sp,Xq,Nat.reduceLT,Nat.reduceLeDiff,Nat.reduceAdd,and_true,↓reduceIte,Nat.zero_add,Bool.and_true] <;> rfl) (by simp only [Dt,B3,E3,Hq,F9,Jf6,Oa,Cg,Bf,A6,Nat.reduceLT,Nat.reduceEqDiff,↓reduceIte] <;> rfl) (by simp only [Dt,F2,Ff,Fe,Dy,C1,Dl,Ek,List.map_cons,List.map_nil,Nat.reduceEqDiff,↓reduceIte] <;> rfl) ?h0 ?hkI ?hkS ?hSn ?round ?done ?stop)
 case hps=>exact fun x hx=>Po hx
 case h0=>rfl
 case hkI=>rintro k R rfl;simp [Rz,findKey]
 case hkS=>exact fun _ _ h=>h.elim
 case hSn=>exact fun _ h=>h
 case stop=>exact fun _ _ h=>h.elim
 case round =>
  rintro k x R l hx rfl
  obtain ⟨p,hp,rfl⟩:=Pu hx
  have hkl:=(List.getElem?_eq_some_iff.1 hp).1
  simp only [Bd,A0,Bb,Be,Ai,Rb,L3,Ml,Ad,Ac,List.map_cons,List.map_nil,Nat.reduceLT,↓reduceIte]
  (refine Ax hm _ _ _ ?_;simp only [Ah,Ci,Bo,Bd,A0,Bb,Dd,Cs,Be,Ba,D5,Gn,Di,Fy,Bp,Bg,C5,Da,Ej,Cr,G1,Lz,Mm,Jw,Gl,Jc,Fj,Ag,Ae,A3,Bk,E8,Dy,C1,B3,E3,Dl,Hq,F9,Ek,Ib,Jm,Ii,Dh,Jl,Gz,G8,Ha,G6,H7,H1,G0,F1,G3,E7,Gb,Km,F6,Jb,Af,Ct,F3,Fa,Dx,C9,C8,Ar,B1,Cw,Cu,Hw,Fv,E6,G2,H3,F5,Ds,Fl,Db,Hf,Ok,Ad,Ac,Bl,Cg,Bf,A6,List.map_cons,List.map_nil,List.length_cons,List.length_nil,List.nil_append,List.append_nil,List.take_succ_cons,List.take_zero,List.take_nil,List.drop_succ_cons,List.drop_zero,List.drop_nil,List.getElem?_cons_zero,ne_eq,not_false_eq_true,Nat.reduceLT,Nat.reduceLeDiff,Nat.reduceEqDiff,Nat.reduceMul,true_and,Ca,↓reduceIte,reduceCtorEq,Nat.zero_add,Bool.true_and,Bool.and_true,beq_self_eq_true,O1,Ty,Jar,Jad,Ld])
  (repeat' (first | (refine iteI (fun h=>?_) (fun h=>?_))|(refine B2 (by first | omega | (simp (disch:=omega) only [Aa,Ak,Aj] at *;omega)) ?_;intro b hb)|(refine And.intro (by first | omega | (simp (disch:=omega) only [Aa,Ak,Aj] at *;omega)) ?_)|((first | (refine A9 hm (by rfl) (by kernel_rfl) ?_));simp only [Dm])|(exact True.intro)|(exfalso;omega)))
  refine ⟨by simp,by rw [E5,List.length_take];omega,by omega,by omega,_,rfl,?_⟩
  rw [Qw hp]
  exact (St.le_slots (by simp only [Cm]) (by simp (disch:=omega) [Dj,Eo,Dg,Bh,Au,Bc,Cq,Aa]) (by simp [Dk]))
 case done =>
  rintro R rfl
  rw [Oc,List.take_of_length_le (by omega)]
  simp only [Dn,Fw,Df,Eb,Gu,G5,E4,E2,Fg,Fm,Fi,Gv,Ih,Dp,Bk,Dt,Hz,Hx,Fh,Fx,Dy,C1,B3,E3,Dl,Hq,F9,Ek,Ar,Cg,Bf,A6,List.map_cons,List.map_nil,List.nil_append,Nat.reduceLeDiff,Nat.reduceEqDiff,↓reduceIte]
  refine ⟨_,St.Le.refl _,?_⟩
  simp only [Ah,Bn,Cn,Ab,Bo,Bd,A0,Bb,Be,Ai,D5,Bg,C5,Da,Ej,Dp,Bk,E8,Dy,C1,B3,E3,Dl,Hq,F9,Ek,Jx,Aw,Ao,D2,K6,Hl,Af,Ct,F3,Ma,Fa,Dx,C9,C8,Ar,A2,Ad,Ac,Cg,Bf,A6,List.map_cons,List.map_nil,List.getElem?_cons_zero,Nat.reduceLT,Nat.reduceEqDiff,Ca,↓reduceIte,and_self,Jar,Jad]
theorem o_Names (nm:List UInt8) (s:List UInt8) (g:Bool) (e:Int) (kids:Forest) (hv:kids.enc.length≤999999):Det cx 124 [.p (.sl (valL ((Tree.mk 6 s g e kids).enc nm)))] [] (.own 900 0 kids.len) [(900,.row 9 1 (Fq kids.list))]:=by
 have hll:=Forest.len_le kids
 have hfl:=Forest.list_len kids
 skip
 (refine Bz.of_code (X:=cx) true [(990,900),(500,900)] (by simp) Tryz.func124 (by kernel_rfl) rfl (by simp only [List.length_cons,List.length_nil,Tryz.ntmps124];decide) (by simp) ?_;refine Ax hm _ _ _ ?_;simp only [Tryz.ntmps124,Tryz.results124,Ah,Bn,Bs,Ab,Bd,A0,Bb,Cs,Be,Az,Ce,Cb,E1,Ba,Ai,B8,D5,C2,Cp,H2,Cc,Bp,Bg,Br,Av,B0,Aq,H0,Eh,B7,D7,He,Cv,Gi,C5,C4,G7,H5,Cr,Ag,Ae,A3,Cd,Bv,Bm,Bx,Bw,A5,B3,Bi,Ay,A4,B1,E6,Cj,Ad,Ac,Bl,Bf,A6,argW,List.map_cons,List.map_nil,List.length_cons,List.length_nil,List.append_nil,List.flatMap_cons,List.flatMap_nil,List.drop_zero,List.getElem?_cons_zero,Nat.reduceLT,Nat.reduceLeDiff,Nat.reduceEqDiff,Nat.reduceAdd,Int.reduceToNat,Int.reduceLE,true_and,Ca,Bu,↓reduceIte,reduceCtorEq,Nat.zero_add,Bool.true_and,Bool.or_true,beq_self_eq_true,Om,Mj,Jk,K1,Jq8,Mu])
 (repeat' (first | (refine iteI (fun h=>?_) (fun h=>?_))|(refine B2 (by first | omega | (simp (disch:=omega) only [Aa,Ak,Aj] at *;omega)) ?_;intro b hb)|(refine And.intro (by first | omega | (simp (disch:=omega) only [Aa,Ak,Aj] at *;omega)) ?_)|((first | (refine A9 hm (by rfl) (by kernel_rfl) ?_)|(refine Det.use (R5 _) ?_)|(refine Det.useQ (R5 _) ?_));simp only [Ci,Ab,Bd,Cs,H4,Hv,Dn,G4,Gc,Df,Gu,Hm,K8,E4,E2,Hr,G9,Gv,Jd,Bk,I4,Gx,Fh,Fx,Dy,B3,E3,Tk,Il,F9,Xe,Ar,Ds,Fl,Db,Ad,Cg,Bf,A6,List.map_cons,List.map_nil,List.cons_append,List.nil_append,decide_eq_true_eq,ne_eq,not_false_eq_true,Nat.reduceLT,Nat.reduceEqDiff,↓reduceIte])|(exact True.intro)|(exfalso;omega)))
 refine SWP.of_le (St.le_nilCell _ (b:=3) (j:=0) (d:=500) 9 1 (.inl (by decide)) (T':=67) (cs:=[.p .snil]) rfl rfl) ?_
 simp only [St.nilCell,St.nilReg,X9,Jh6,Jhy,Ar,B1,Cw,Cu,Hw,E6,I5,H3,Jgw,Bl,Bf,A6,List.map_cons,List.map_nil,List.contains_cons,List.contains_nil,List.set_cons_zero,Nat.reduceEqDiff,Nat.reduceBEq,↓reduceIte,Bool.false_eq_true,Bool.or_false]
 (refine SWP.range (Mh kids) 19 [(17,500000)] (by simp) _ _ _ _ _ (fun k R=>R=[(500000,.row 9 1 (Fq (kids.list.take k))),(1001,.var 67 [.own 500000 0 k])]) (fun _ _=>False) (by rfl) (by rfl) (by rfl) (Jc2 nm 6 s g e kids hv) (by simp only [Gs,D8,Dv,Kt,Nj,Jg,Oy,Kb,Xg,Zk,Dc,Bf,A6,List.map_cons,List.map_nil,List.contains_cons,List.contains_nil,Nat.reduceEqDiff,↓reduceIte,Bool.or_false,beq_self_eq_true] <;> rfl) (by first | rfl | simp [Jz]) (by simp) ?hps (by simp only [Su,Sp,Xq,Nat.reduceLT,Nat.reduceLeDiff,Nat.reduceAdd,and_true,↓reduceIte,Nat.zero_add,Bool.and_true] <;> rfl) (by simp only [Dt,B3,E3,Il,Hq,F9,Jf6,Oa,Cg,Bf,A6,Nat.reduceLT,Nat.reduceEqDiff,↓reduceIte] <;> rfl) (by simp only [Dt,F2,Ff,Fe,Dy,C1,Dl,Ek,List.map_cons,List.map_nil,Nat.reduceEqDiff,↓reduceIte] <;> rfl) ?h0 ?hkI ?hkS ?hSn ?round ?done ?stop)
 case hps=>exact fun x hx=>Po hx
 case h0=>rfl
 case hkI=>rintro k R rfl;simp [Rz,findKey]
 case hkS=>exact fun _ _ h=>h.elim
 case hSn=>exact fun _ h=>h
 case stop=>exact fun _ _ h=>h.elim
 case round =>
  rintro k x R l hx rfl
  obtain ⟨p,hp,rfl⟩:=Pu hx
  have hkl:=(List.getElem?_eq_some_iff.1 hp).1
  simp only [Bd,A0,Bb,Be,Ai,Rb,L3,Ml,Ad,Ac,List.map_cons,List.map_nil,Nat.reduceLT,Nat.reduceEqDiff,↓reduceIte]
  (refine Ax hm _ _ _ ?_;simp only [Ah,Ci,Bo,Bd,A0,Bb,Dd,Cs,Be,Ba,D5,Gn,Di,Fy,Bp,Bg,C5,Da,Ej,Cr,G1,Kx,Mm,Jw,Gl,Jc,Fj,Ag,Ae,A3,Bk,E8,Dy,C1,B3,E3,Dl,Il,Hq,F9,Ek,Ib,Jm,Ii,Dh,Jl,Gz,G8,Ha,G6,H7,H1,G0,F1,G3,E7,Gb,Km,F6,Jb,Af,Ct,F3,Fa,Dx,C9,C8,Ar,B1,Cw,Cu,Hw,Fv,E6,G2,I5,H3,F5,Ds,Fl,Db,Hf,Ok,Ad,Ac,Bl,Cg,Bf,A6,List.map_cons,List.map_nil,List.length_cons,List.length_nil,List.nil_append,List.append_nil,List.take_succ_cons,List.take_zero,List.take_nil,List.drop_succ_cons,List.drop_zero,List.drop_nil,List.getElem?_cons_zero,ne_eq,not_false_eq_true,Nat.reduceLT,Nat.reduceLeDiff,Nat.reduceEqDiff,Nat.reduceMul,true_and,Ca,↓reduceIte,reduceCtorEq,Nat.zero_add,Bool.true_and,Bool.and_true,beq_self_eq_true,Wn,Jey,Jnw,Jn2,K2])
  (repeat' (first | (refine iteI (fun h=>?_) (fun h=>?_))|(refine B2 (by first | omega | (simp (disch:=omega) only [Aa,Ak,Aj] at *;omega)) ?_;intro b hb)|(refine And.intro (by first | omega | (simp (disch:=omega) only [Aa,Ak,Aj] at *;omega)) ?_)|((first | (refine A9 hm (by rfl) (by kernel_rfl) ?_));simp only [Dm])|(exact True.intro)|(exfalso;omega)))
  refine ⟨by simp,by rw [Fp,List.length_take];omega,by omega,by omega,_,rfl,?_⟩
  rw [Wz hp]
  exact (St.le_slots (by simp only [Cm]) (by simp (disch:=omega) [Dj,Eo,Dg,Bh,Au,Bc,Cq,Aa]) (by simp [Dk]))
 case done =>
  rintro R rfl
  rw [Oc,List.take_of_length_le (by omega)]
  simp only [Dn,Fw,Df,Eb,Gu,G5,E4,E2,Fg,Fm,Fi,Gv,Ih,Dp,Bk,Dt,Hz,Hx,Fh,Fx,Dy,C1,B3,E3,Dl,Il,Hq,F9,Ek,Ar,Cg,Bf,A6,List.map_cons,List.map_nil,List.nil_append,Nat.reduceLeDiff,Nat.reduceEqDiff,↓reduceIte]
  refine ⟨_,St.Le.refl _,?_⟩
  simp only [Ah,Bn,Cn,Ab,Bo,Bd,A0,Bb,Be,Ai,D5,Bg,C5,Da,Ej,Dp,Bk,E8,Dy,C1,B3,E3,Dl,Il,Hq,F9,Ek,Jx,Aw,Ao,D2,K6,Hl,Af,Ct,F3,Ma,Fa,Dx,C9,C8,Ar,A2,Ad,Ac,Cg,Bf,A6,List.map_cons,List.map_nil,List.getElem?_cons_zero,Nat.reduceLT,Nat.reduceEqDiff,Ca,↓reduceIte,and_self,Jnw,Jn2]
theorem Jd4 (es:List (List PV)) (n:Nat) (x:List UInt8) (h:es.length=n) (hn:n≤1000000):Det cx 127 [.own 1000 0 n,.p (.int .i64 n),.own 1001 0 1] [(1001,.row 9 1 [[.str x]]),(1000,.row 9 1 es)] (.own 900 0 (n+1)) [(900,.row 9 1 (es ++ [[.str x]])),(1001,.row 9 1 [[.str x]])]:=by
 (refine Bz.of_code (X:=cx) true [(25,900)] (by simp) Tryz.func127 (by kernel_rfl) rfl (by simp only [List.length_cons,List.length_nil,Tryz.ntmps127];decide) (by simp) ?_;refine Ax hm _ _ _ ?_;simp only [Tryz.ntmps127,Tryz.results127,Ch,Ah,Bn,Bs,Cn,Ab,Cf,Bd,A0,Bb,Cs,Be,Az,Cb,E1,Ba,Ai,B8,Ft,Eg,Fy,Bp,Br,Av,B0,Aq,H0,D9,Gg,E9,Ef,Fn,Oz,Md,N2,Oi,Cr,G1,Dp,Bk,E8,C1,B3,Dl,Hq,Ek,Ii,G0,F1,G3,E7,Gb,Km,F6,Jb,Jx,Aw,Ao,D2,Al,K6,Hl,Af,Ct,F3,Ma,Fa,Dx,C9,C8,A1,Ar,B1,Cw,Fv,E6,G2,F5,A2,Ad,Ac,Bl,Cg,Bf,A6,argW,List.map_cons,List.map_nil,List.length_cons,List.length_nil,List.take_succ_cons,List.take_nil,List.drop_zero,beq_iff_eq,Nat.reduceLT,Nat.reduceLeDiff,Nat.reduceEqDiff,Nat.reduceAdd,true_and,and_true,Ca,↓reduceIte,reduceCtorEq,Int.toNat_natCast,Int.natCast_nonneg,Nat.zero_add,List.cons.injEq,Bool.true_and,Bool.and_true,Bool.or_false,Bool.or_true,beq_self_eq_true,and_self,Kw,Wn,Jey,Mi,K2])
 (repeat' (first | (refine iteI (fun h=>?_) (fun h=>?_))|(refine B2 (by first | omega | (simp (disch:=omega) only [Aa,Ak,Aj] at *;omega)) ?_;intro b hb)|(refine And.intro (by first | omega | (simp (disch:=omega) only [Aa,Ak,Aj] at *;omega)) ?_)|((first | (refine A9 hm (by rfl) (by kernel_rfl) ?_));simp only [Dm])|(exact True.intro)|(exfalso;omega)))
 exact ⟨by simp,(by assumption),by omega,by omega⟩
theorem Jew (es:List (List PV)) (n:Nat) (x:PV) (hx:x.scalar=true) (h:es.length=n) (hn:n≤1000000):Det cx 128 [.own 1000 0 n,.p (.int .i64 n),.own 1001 0 1] [(1001,.row 34 1 [[x]]),(1000,.row 34 1 es)] (.own 900 0 (n+1)) [(900,.row 34 1 (es ++ [[x]])),(1001,.row 34 1 [[x]])]:=by
 (refine Bz.of_code (X:=cx) true [(25,900)] (by simp) Tryz.func128 (by kernel_rfl) rfl (by simp only [List.length_cons,List.length_nil,Tryz.ntmps128];decide) (by simp) ?_;refine Ax hm _ _ _ ?_;simp only [Tryz.ntmps128,Tryz.results128,Ch,Ah,Bn,Bs,Cn,Ab,Cf,Bd,A0,Bb,Cs,Be,Az,Cb,E1,Ba,Ai,B8,Ft,Eg,Fy,Bp,Br,Av,B0,Aq,H0,D9,Gg,E9,Ef,Fn,Oz,Md,N2,Oi,Cr,G1,Dp,Bk,E8,C1,B3,Dl,Hq,Ek,Ii,G0,F1,G3,E7,Gb,Km,F6,Jb,Jx,Aw,Ao,D2,Al,K6,Hl,Af,Ct,F3,Ma,Fa,Dx,C9,C8,A1,Ar,B1,Cw,Fv,E6,G2,F5,A2,Ad,Ac,Bl,Cg,Bf,A6,argW,List.map_cons,List.map_nil,List.length_cons,List.length_nil,List.take_succ_cons,List.take_nil,List.drop_zero,beq_iff_eq,Nat.reduceLT,Nat.reduceLeDiff,Nat.reduceEqDiff,Nat.reduceAdd,true_and,and_true,Ca,↓reduceIte,reduceCtorEq,Int.toNat_natCast,Int.natCast_nonneg,Nat.zero_add,List.cons.injEq,Bool.true_and,Bool.and_true,Bool.or_false,Bool.or_true,beq_self_eq_true,and_self,Mx,O1,Ty,O4,Ld])
 (repeat' (first | (refine iteI (fun h=>?_) (fun h=>?_))|(refine B2 (by first | omega | (simp (disch:=omega) only [Aa,Ak,Aj] at *;omega)) ?_;intro b hb)|(refine And.intro (by first | omega | (simp (disch:=omega) only [Aa,Ak,Aj] at *;omega)) ?_)|((first | (refine A9 hm (by rfl) (by kernel_rfl) ?_));simp only [Dm])|(exact True.intro)|(exfalso;omega)))
 exact ⟨by simp,(by assumption),by omega,by omega⟩
theorem Rp (t:Tree) (nm:List UInt8):(t.enc nm).length=(t.enc []).length:=by
 cases t;rw [Ga,Ga];simp
end Go.LX
set_option maxRecDepth 100000
set_option maxHeartbeats 2000000
namespace Go.LX
open Go Go.RowKit Go.Proofs
attribute [local irreducible] Bz SWP Gm
theorem La (v:List Node) (i:Nat) (nm:List UInt8) (t:Tree) (rest:List Node) (hv:v.length≤1000000) (h:v.drop i=t.enc nm ++ rest):Det cx 65 [.p (.sl (valL v)),.p (.int .i64 i)] [] (.p (.int .i64 (i+(t.enc nm).length:Nat))) []:=by
 (refine Bz.of_code (X:=cx) false [] (by simp) Tryz.func65 (by kernel_rfl) rfl (by simp only [List.length_cons,List.length_nil,Tryz.ntmps65];decide) (by simp) ?_;refine Ax hm _ _ _ ?_;simp only [Tryz.ntmps65,Tryz.results65,Ah,Bn,Ci,H9,Ab,Bd,A0,Bb,Az,Cb,Ai,Ad,argW,List.map_cons,List.map_nil,Int.reduceNeg,Ca,Nat.zero_add])
 have hp:=Rx t nm
 have hb:=Jca h (fun e=>by have e2:(t.enc nm ++ rest).length=0:=(by rw [e];rfl);rw [List.length_append] at e2;omega)
 rw [List.length_append] at hb
 refine SWP.loop (fun x:Nat×Nat×Forest=>⟨Fo 41 [(0,.p (.sl (valL v))),(1,.p (.int .i64 x.1)),(5,.p (.int .i64 x.2.1))],[]⟩) (fun x=>x.2.1=x.2.2.len∧v.drop x.1=x.2.2.enc ++ rest∧x.1+x.2.2.enc.length=i+(t.enc nm).length) (fun x=>x.2.2.enc.length) (i,1,.cons nm t .nil) (St.le_slots (by simp only [Ck,Cm,Ac,Bj,Au,Nat.reduceEqDiff,reduceIte,Nat.reduceLT,Nat.reduceLeDiff];simp (disch:=omega) [Au,Bc,Cq,Aa] <;> (repeat' apply And.intro) <;> omega) (by simp (disch:=omega) [Dj,Eo,Dg,Bh,Au,Bc,Cq,Aa]) (by simp [Dk])) ⟨rfl,by simp [Er,Jf,h],by simp [Er,Jf]⟩ ?_
 rintro ⟨j,left,F⟩ ⟨h0,h1,h2⟩
 simp only at h0 h1 h2
 match F,h0,h1,h2 with
 | .nil,h0,h1,h2 =>
  rw [Jf] at h2
  simp only [Forest.len] at h0
  subst h0
  (refine Ax hm _ _ _ ?_;simp only [Ch,Ah,Bn,Bs,Ci,Fd,Cn,Ab,Co,Cf,B4,Ei,Bd,A0,Dq,Bb,Ep,Be,Az,C0,Cb,Ba,Ai,B8,Em,Cp,Eg,Br,C6,D6,D3,D4,Av,B0,Aq,Js,M2,D9,D0,B7,D7,Ag,Ae,A3,Bt,Cy,Cz,A7,A8,B9,Aw,Ao,Al,B5,B6,Af,Am,Ap,Cl,A1,A2,Ad,Ac,Ea,List.map_cons,List.map_nil,List.getD_cons_zero,List.getD_cons_succ,decide_eq_true_eq,Nat.reduceLT,Nat.reduceEqDiff,Int.reduceNeg,true_and,and_true,Ca,↓reduceIte,reduceCtorEq,Int.toNat_natCast,Int.natCast_nonneg,L.p.injEq,PV.int.injEq,Bool.false_eq_true,Bool.true_and,Bool.and_true,Bool.or_false,Bool.or_true,Qb,Jk])
  (repeat' (first | (refine iteI (fun h=>?_) (fun h=>?_))|(refine B2 (by first | omega | (simp (disch:=omega) only [Aa,Ak,Aj] at *;omega)) ?_;intro b hb)|(refine And.intro (by first | omega | (simp (disch:=omega) only [Aa,Ak,Aj] at *;omega)) ?_)|((first | (refine A9 hm (by rfl) (by kernel_rfl) ?_));simp only [Dm])|(exact True.intro)|(exfalso;omega)))
  simp only [List.length_nil] at h2
  omega
 | .cons nm' (.mk k s g e kids) r,h0,h1,h2 =>
  rw [Q3] at h0
  rw [Er,Ga] at h1 h2
  have hg:=Ot h1
  rw [M1] at hg
  simp only [List.length_cons,List.length_append] at h2
  have hl1:=Forest.len_le kids
  have hl2:=Forest.len_le r
  have w0:IntKind.i64.wrap ((left:Int) - 1)=(r.len:Int):=by rw [Aa (by omega) (by omega)];omega
  have w1:IntKind.i64.wrap ((r.len:Int)+(kids.len:Int))=((r.len+kids.len:Nat):Int):=by rw [Aa (by omega) (by omega)];omega
  skip
  (refine Ax hm _ _ _ ?_;simp only [Ch,Ah,Bn,Bs,Ci,Fd,Cn,Ab,Co,Cf,Bo,B4,Ei,Bd,A0,Dq,Bb,Ep,Be,Az,C0,Cb,Ba,Ai,B8,Em,D5,C2,Cp,Eg,Bg,Br,C6,D6,D3,D4,Av,B0,Aq,Hb,Nn,D1,Js,M2,D9,D0,Eh,B7,D7,He,Cv,Gi,C5,C4,Ag,Ae,A3,Bt,Cy,Cz,A7,A8,B9,Aw,Ao,Al,B5,B6,Af,Am,Ap,Cl,A1,A2,Ad,Ac,Ea,List.map_cons,List.map_nil,List.getD_cons_zero,List.getD_cons_succ,List.length_cons,List.length_nil,List.drop_succ_cons,List.drop_zero,List.getElem?_cons_zero,decide_eq_true_eq,Nat.reduceLT,Nat.reduceLeDiff,Nat.reduceEqDiff,Nat.reduceAdd,Int.reduceNeg,true_and,and_true,Ca,↓reduceIte,reduceCtorEq,Int.toNat_natCast,Int.natCast_nonneg,Nat.zero_add,L.p.injEq,PV.int.injEq,Bool.false_eq_true,Bool.true_and,Bool.and_true,Bool.or_false,Bool.or_true,Om,Mj,Qb,Jk,Kj,wj1 (i:=j) (by omega),hg,w0,w1,Iz])
  (repeat' (first | (refine iteI (fun h=>?_) (fun h=>?_))|(refine B2 (by first | omega | (simp (disch:=omega) only [Aa,Ak,Aj] at *;omega)) ?_;intro b hb)|(refine And.intro (by first | omega | (simp (disch:=omega) only [Aa,Ak,Aj] at *;omega)) ?_)|((first | (refine A9 hm (by rfl) (by kernel_rfl) ?_));simp only [Dm])|(exact True.intro)|(exfalso;omega)))
  ·exact ⟨(j+1,r.len+kids.len,kids.app r),⟨by simp only [Forest.len_app];omega,by
    simp only [Forest.enc_app]
    rw [← List.drop_drop,h1];simp,by simp only [Forest.enc_app,List.length_append];omega⟩,by simp only [Forest.enc_app,Er,Ga,List.length_append,List.length_cons];omega,(St.le_slots (by simp only [Ck,Cm,Ac,Bj,Au,Nat.reduceEqDiff,reduceIte,Nat.reduceLT,Nat.reduceLeDiff];simp (disch:=omega) [Au,Bc,Cq,Aa] <;> (repeat' apply And.intro) <;> omega) (by simp (disch:=omega) [Dj,Eo,Dg,Bh,Au,Bc,Cq,Aa]) (by simp [Dk]))⟩
end Go.LX
set_option maxRecDepth 100000
set_option maxHeartbeats 2000000
namespace Go.LX
open Go Go.RowKit Go.Proofs
attribute [local irreducible] Bz SWP Gm
theorem Xw (v:List Node) (i j:Nat) (nm:List UInt8) (t:Tree) (rest:List Node) (hv:v.length≤1000000) (h:v.drop i=t.enc nm ++ rest) (hj:j=i+(t.enc nm).length):Det cx 103 [.p (.sl (valL v)),.p (.int .i64 i),.p (.int .i64 j)] [] (.p (.sl (valL (t.enc [])))) []:=by
 cases t with
 | mk k s g e kids =>
 have hs:=Jga h
 have hb:=Jca h (fun e=>by have e2:=congrArg List.length e;rw [Ga] at e2;simp at e2)
 have hel:((Tree.mk k s g e kids).enc nm).length=kids.enc.length+1:=by rw [Ga];rfl
 rw [List.length_append] at hb
 have hs':((valL v).drop i).take (j - i)=[.int .i64 k,.int .i64 kids.len,.str nm,.str s,.bool g,.int .i64 e] :: valL kids.enc:=by
  rw [hj,Nat.add_sub_cancel_left,hs,Ga,Z3,M1]
 have htk:(valL kids.enc).take kids.enc.length=valL kids.enc:=List.take_of_length_le (by simp)
 have h6:∀ q∈([.int .i64 k,.int .i64 kids.len,.str nm,.str s,.bool g,.int .i64 e] :: valL kids.enc:List (List PV)),q.length=6:=fun q hq=>Ou ((Tree.mk k s g e kids).enc nm) q (by rw [Ga];exact hq)
 skip
 (refine Bz.of_code (X:=cx) false [] (by simp) Tryz.func103 (by kernel_rfl) rfl (by simp only [List.length_cons,List.length_nil,Tryz.ntmps103];decide) (by simp) ?_;refine Ax hm _ _ _ ?_;simp only [Tryz.ntmps103,Tryz.results103,Ah,Bn,Cn,Ab,Bd,A0,Bb,Dd,Cs,Be,Az,Cb,Hc,E1,Ba,Ai,D5,Gn,C2,Cp,Ft,H2,Di,Fy,Bp,Bg,B7,Kr,Ku,Cv,Gd,K7,Jlm,C5,Iq,Jj,Zp,Ef,Fn,Jgq,Gy,G7,H5,Cr,G1,Gj,Kx,Jw,Vb,T9,U4,Rs,Gl,Jc,Fj,Ob,Ag,Ae,A3,F8,Gq,Fk,Gs,Ib,Jm,Ii,Dh,Jl,Gz,H7,G0,F1,Pr,Lu,Gb,Km,Bt,Cy,Cz,A7,A8,B9,Aw,Ao,Al,B5,B6,Af,Am,Ap,Cl,A1,Ar,B1,Cw,Cu,D8,Dv,Fv,Kt,E6,G2,H3,F5,Jg,S0,Kb,Hy,Ds,Fl,Db,Hf,A2,Ad,Ac,Bl,Dc,Bf,A6,argW,List.map_cons,List.map_nil,List.length_cons,List.length_nil,List.cons_append,List.nil_append,List.append_nil,List.take_succ_cons,List.take_zero,List.take_nil,List.drop_succ_cons,List.drop_zero,List.drop_nil,List.set_cons_zero,List.getElem?_cons_zero,ne_eq,not_false_eq_true,Nat.reduceLT,Nat.reduceLeDiff,Nat.reduceEqDiff,Nat.reduceAdd,Nat.reduceMul,Int.reduceToNat,Int.reduceLE,true_and,and_true,Ca,↓reduceIte,reduceCtorEq,Int.toNat_natCast,Int.natCast_nonneg,Nat.zero_add,L.p.injEq,Bool.true_and,Bool.and_true,Kw,Qb,Jk,Jom,Jfx,Tb,Rr,Xa,hs',Iz,htk,Nat.le_refl])
 (repeat' (first | (refine And.intro (Ou _) ?_)|(refine iteI (fun h=>?_) (fun h=>?_))|(refine B2 (by first | omega | (simp (disch:=omega) only [Aa,Ak,Aj] at *;omega)) ?_;intro b hb)|(refine And.intro (by first | omega | (simp (disch:=omega) only [Aa,Ak,Aj] at *;omega)) ?_)|((first | (refine A9 hm (by rfl) (by kernel_rfl) ?_));simp only [Dm])|(exact True.intro)|(exfalso;omega)))
 rw [Ga];rfl
theorem Jk0 {v:List Node} {j:Nat} {nm:List UInt8} {t:Tree} {b:List Node} (h:v.drop j=t.enc nm ++ b):∃ k n s g e,(valL v)[j]? = some [.int .i64 k,.int .i64 n,.str nm,.str s,.bool g,.int .i64 e]:=by
 cases t with
 | mk k s g e kids =>
  rw [Ga] at h
  exact ⟨k,kids.len,s,g,e,Ot h⟩
theorem Jdl (nm:List UInt8) (kd:Int) (s:List UInt8) (g:Bool) (e:Int) (kids:Forest) (hv:kids.enc.length≤999999):Det cx 43 [.p (.sl (valL ((Tree.mk kd s g e kids).enc nm)))] [] (.p (.sl (El kids.list))) []:=by
 have hl:=Forest.len_le kids
 have hkl:=Forest.list_len kids
 generalize hvv:(Tree.mk kd s g e kids).enc nm=v
 have h0:v.drop 0=⟨kd,kids.len,nm,s,g,e⟩ :: kids.enc:=by rw [← hvv,Ga];rfl
 have hg0:=Ot h0
 rw [M1] at hg0
 have hvl:v.length=kids.enc.length+1:=by rw [← hvv,Ga];rfl
 skip
 (refine Bz.of_code (X:=cx) false [] (by simp) Tryz.func43 (by kernel_rfl) rfl (by simp only [List.length_cons,List.length_nil,Tryz.ntmps43];decide) (by simp) ?_;refine Ax hm _ _ _ ?_;simp only [Tryz.ntmps43,Tryz.results43,Ah,Bn,Ci,H9,Ab,Bd,A0,Bb,Cs,Be,Az,Cb,E1,Ai,Di,Bp,Cr,Ag,Ib,Jm,Ii,Dh,Jl,Gz,H7,B1,E6,Ad,Ac,Bl,Bf,A6,argW,List.map_cons,List.map_nil,List.length_cons,List.length_nil,Nat.reduceLT,Nat.reduceLeDiff,Nat.reduceMul,true_and,Ca,↓reduceIte,Nat.zero_add,Bool.true_and,O1,Ld])
 (repeat' (first | (refine iteI (fun h=>?_) (fun h=>?_))|(refine B2 (by first | omega | (simp (disch:=omega) only [Aa,Ak,Aj] at *;omega)) ?_;intro b hb)|(refine And.intro (by first | omega | (simp (disch:=omega) only [Aa,Ak,Aj] at *;omega)) ?_)|((first | (refine A9 hm (by rfl) (by kernel_rfl) ?_));simp only [Dm])|(exact True.intro)|(exfalso;omega)))
 refine SWP.of_le (Ix [(7,25)] _ (by simp)) ?_
 simp only [Bk,E8,C1,B3,Dl,Ek,Af,Ct,F3,Fa,Dx,C9,C8,Cg,Bf,A6,↓reduceIte]
 refine SWP.loop (fun x:Nat×Nat×Forest=>⟨Fo 28 [(0,.p (.sl (valL v))),(3,.own 25 0 x.1),(4,.p (.int .i64 x.2.1)),(5,.p (.int .i64 x.1))],[(25,.row 34 1 (El (kids.list.take x.1)))]⟩) (fun x=>x.1+x.2.2.len=kids.len∧v.drop x.2.1=x.2.2.enc∧x.2.1+x.2.2.enc.length=v.length∧kids.list.drop x.1=x.2.2.list) (fun x=>x.2.2.enc.length) (0,1,kids) (St.le_slots (by simp only [Ck,Cm,Ac,Bj,Au,Nat.reduceEqDiff,reduceIte,Nat.reduceLT,Nat.reduceLeDiff];simp (disch:=omega) [Au,Bc,Cq,Aa] <;> (repeat' apply And.intro) <;> omega) (by simp (disch:=omega) [Dj,Eo,Dg,Bh,Au,Bc,Cq,Aa]) (by simp [Dk])) ⟨by simp,by rw [← hvv,Ga];rfl,by simp only;omega,rfl⟩ ?_
 rintro ⟨k,j,F⟩ ⟨h1,h2,h3,h4⟩
 simp only at h1 h2 h3 h4 ⊢
 match F,h1,h2,h3,h4 with
 | .nil,h1,h2,h3,h4 =>
  simp only [Forest.len] at h1
  have hkk:k=kids.len:=by omega
  subst hkk
  have hpl:(kids.len≤(El (kids.list.take kids.len)).length)=True:=eq_true (by rw [E5,List.length_take];omega)
  have htk:(El (kids.list.take kids.len)).take kids.len=El kids.list:=by
   rw [List.take_of_length_le (by rw [E5,List.length_take];omega),List.take_of_length_le (by omega)]
  have hgj:=hpl
  skip
  (refine Ax hm _ _ _ ?_;simp only [Ch,Ah,Bn,Bs,Ci,Fd,Cn,Ab,Co,B4,Bd,A0,Bb,Be,Az,Ce,Cb,Ba,Ai,B8,D5,C2,Cp,Cc,Bg,Br,Av,Aq,D1,Eh,B7,D7,He,Cv,Gi,C5,C4,Ag,Ae,A3,F8,Gq,Fk,Gs,Cd,Bv,Bm,Bx,Bw,A5,B3,Bi,Ay,A4,Bt,Cy,Cz,A7,A8,B9,Aw,Ao,Al,B5,B6,Af,Am,Ap,Cl,A1,Ar,D8,Dv,Jg,Oy,Hy,Cj,A2,Ad,Ac,Dc,Bf,A6,Ea,List.map_cons,List.map_nil,List.length_cons,List.length_nil,List.append_nil,List.flatMap_cons,List.flatMap_nil,List.drop_succ_cons,List.drop_zero,List.getElem?_cons_zero,decide_eq_true_eq,Nat.reduceLT,Nat.reduceLeDiff,Nat.reduceEqDiff,Nat.reduceAdd,Int.reduceToNat,Int.reduceLE,true_and,Ca,Bu,↓reduceIte,reduceCtorEq,Nat.zero_add,Bool.true_and,Bool.or_false,and_self,Om,Mj,Jk,Kj,hg0,hpl,htk])
  (repeat' (first | (refine iteI (fun h=>?_) (fun h=>?_))|(refine B2 (by first | omega | (simp (disch:=omega) only [Aa,Ak,Aj] at *;omega)) ?_;intro b hb)|(refine And.intro (by first | omega | (simp (disch:=omega) only [Aa,Ak,Aj] at *;omega)) ?_)|((first | (refine A9 hm (by rfl) (by kernel_rfl) ?_));simp only [Dm])|(exact True.intro)|(exfalso;omega)))
  skip
 | .cons nm' t' r,h1,h2,h3,h4 =>
  rw [Q3] at h1
  rw [Er] at h2 h3
  rw [List.length_append] at h3
  have hkk:kids.list[k]? = some (nm',t'):=by
   have:=congrArg (·[0]?) h4
   simpa [Forest.list] using this
  have hpk:=Qw hkk
  have hpl:(El (kids.list.take k)).length=k:=by rw [E5,List.length_take];omega
  have hw:=wj1 (i:=k) (by omega)
  have htk:=hw
  have hgj:=hw
  skip
  (refine Ax hm _ _ _ ?_;simp only [Ch,Ah,Bn,Bs,Ci,Fd,Cn,Ab,Co,B4,Bd,A0,Bb,Be,Az,Ce,Cb,Ba,Ai,B8,D5,C2,Cp,Cc,Bg,Br,Av,Aq,D1,Eh,B7,D7,He,Cv,Gi,C5,C4,Ag,Ae,A3,F8,Gq,Fk,Gs,Cd,Bv,Bm,Bx,Bw,A5,B3,Bi,Ay,A4,A8,B5,B6,Af,Am,Ap,Ar,D8,Dv,Jg,Oy,Hy,Cj,A2,Ad,Ac,Dc,Bf,A6,Ea,List.map_cons,List.map_nil,List.length_cons,List.length_nil,List.append_nil,List.flatMap_cons,List.flatMap_nil,List.drop_succ_cons,List.drop_zero,List.getElem?_cons_zero,decide_eq_true_eq,Nat.reduceLT,Nat.reduceLeDiff,Nat.reduceEqDiff,Nat.reduceAdd,Int.reduceToNat,Int.reduceLE,true_and,Ca,Bu,↓reduceIte,reduceCtorEq,Nat.zero_add,Bool.true_and,Bool.or_false,Om,Mj,Jk,Kj,hg0,hpl])
  (repeat' (first | (refine iteI (fun h=>?_) (fun h=>?_))|(refine B2 (by first | omega | (simp (disch:=omega) only [Aa,Ak,Aj] at *;omega)) ?_;intro b hb)|(refine And.intro (by first | omega | (simp (disch:=omega) only [Aa,Ak,Aj] at *;omega)) ?_)|((first | (refine A9 hm (by rfl) (by kernel_rfl) ?_)|(refine Det.use (La v j nm' t' r.enc (by omega) h2) ?_)|(refine Det.useQ (La v j nm' t' r.enc (by omega) h2) ?_)|(refine Det.use (Xw v j (j+(t'.enc nm').length) nm' t' r.enc (by omega) h2 rfl) ?_)|(refine Det.useQ (Xw v j (j+(t'.enc nm').length) nm' t' r.enc (by omega) h2 rfl) ?_));simp only [Ah,Bn,Ab,Bo,Bd,A0,Bb,Cs,Be,Az,Ce,Cb,Ba,Ai,B8,Di,Fy,Cc,Bp,Av,B0,Aq,Hb,Cr,G1,Lz,Ag,Ae,A3,Cd,Bv,Bm,Bx,Bw,A5,Bq,B3,Bi,Ay,A4,Ib,Jm,Ii,Dh,Jl,Gz,G8,Ha,G6,H7,H1,G0,F1,G3,E7,Gb,Km,F6,Jb,Ar,B1,Cw,Fv,E6,G2,I5,F5,Cj,Ds,Fl,Db,Hf,Ad,Ac,Bl,Bf,A6,Ea,List.map_cons,List.map_nil,List.length_cons,List.length_nil,List.append_nil,List.flatMap_cons,List.flatMap_nil,List.take_succ_cons,List.take_nil,List.drop_zero,Nat.reduceLT,Nat.reduceLeDiff,Nat.reduceEqDiff,Nat.reduceMul,true_and,Ca,Bu,↓reduceIte,reduceCtorEq,Nat.zero_add,Bool.true_and,Bool.and_true,Bool.or_true,beq_self_eq_true,O1,Ty,Ld,hpl,htk])|(exact True.intro)|(exfalso;omega)))
  refine ⟨by simp,by omega,by omega,(k+1,j+(t'.enc nm').length,r),⟨by simp only;omega,by simp only;rw [← List.drop_drop,h2,List.drop_left],by simp only;omega,by simp only;rw [← List.drop_drop,h4];rfl⟩,by have:=Rx t' nm';simp only [Er,List.length_append];omega,?_⟩
  simp only
  rw [hpk]
  exact (St.le_slots (by simp only [Ck,Cm,Ac,Bj,Au,Nat.reduceEqDiff,reduceIte,Nat.reduceLT,Nat.reduceLeDiff];simp (disch:=omega) [Au,Bc,Cq,Aa] <;> (repeat' apply And.intro) <;> omega) (by simp (disch:=omega) [Dj,Eo,Dg,Bh,Au,Bc,Cq,Aa]) (by simp [Dk]))
theorem Jm4 (nm:List UInt8) (kd:Int) (s:List UInt8) (g:Bool) (e:Int) (kids:Forest) (hv:kids.enc.length≤999999):Det cx 43 [.p (.sl (valL ((Tree.mk kd s g e kids).enc nm)))] [] (.own 900 0 kids.len) [(900,.row 34 1 (El kids.list))]:=by
 have hl:=Forest.len_le kids
 have hkl:=Forest.list_len kids
 generalize hvv:(Tree.mk kd s g e kids).enc nm=v
 have h0:v.drop 0=⟨kd,kids.len,nm,s,g,e⟩ :: kids.enc:=by rw [← hvv,Ga];rfl
 have hg0:=Ot h0
 rw [M1] at hg0
 have hvl:v.length=kids.enc.length+1:=by rw [← hvv,Ga];rfl
 skip
 (refine Bz.of_code (X:=cx) true [(25,900)] (by simp) Tryz.func43 (by kernel_rfl) rfl (by simp only [List.length_cons,List.length_nil,Tryz.ntmps43];decide) (by simp) ?_;refine Ax hm _ _ _ ?_;simp only [Tryz.ntmps43,Tryz.results43,Ah,Bn,Ci,H9,Ab,Bd,A0,Bb,Cs,Be,Az,Cb,E1,Ai,Di,Bp,Cr,Ag,Ib,Jm,Ii,Dh,Jl,Gz,H7,B1,E6,Ad,Ac,Bl,Bf,A6,argW,List.map_cons,List.map_nil,List.length_cons,List.length_nil,Nat.reduceLT,Nat.reduceLeDiff,Nat.reduceMul,true_and,Ca,↓reduceIte,Nat.zero_add,Bool.true_and,O1,Ld])
 (repeat' (first | (refine iteI (fun h=>?_) (fun h=>?_))|(refine B2 (by first | omega | (simp (disch:=omega) only [Aa,Ak,Aj] at *;omega)) ?_;intro b hb)|(refine And.intro (by first | omega | (simp (disch:=omega) only [Aa,Ak,Aj] at *;omega)) ?_)|((first | (refine A9 hm (by rfl) (by kernel_rfl) ?_));simp only [Dm])|(exact True.intro)|(exfalso;omega)))
 refine SWP.of_le (Ix [(7,25)] _ (by simp)) ?_
 simp only [Bk,E8,C1,B3,Dl,Ek,Af,Ct,F3,Fa,Dx,C9,C8,Cg,Bf,A6,↓reduceIte]
 refine SWP.loop (fun x:Nat×Nat×Forest=>⟨Fo 28 [(0,.p (.sl (valL v))),(3,.own 25 0 x.1),(4,.p (.int .i64 x.2.1)),(5,.p (.int .i64 x.1))],[(25,.row 34 1 (El (kids.list.take x.1)))]⟩) (fun x=>x.1+x.2.2.len=kids.len∧v.drop x.2.1=x.2.2.enc∧x.2.1+x.2.2.enc.length=v.length∧kids.list.drop x.1=x.2.2.list) (fun x=>x.2.2.enc.length) (0,1,kids) (St.le_slots (by simp only [Ck,Cm,Ac,Bj,Au,Nat.reduceEqDiff,reduceIte,Nat.reduceLT,Nat.reduceLeDiff];simp (disch:=omega) [Au,Bc,Cq,Aa] <;> (repeat' apply And.intro) <;> omega) (by simp (disch:=omega) [Dj,Eo,Dg,Bh,Au,Bc,Cq,Aa]) (by simp [Dk])) ⟨by simp,by rw [← hvv,Ga];rfl,by simp only;omega,rfl⟩ ?_
 rintro ⟨k,j,F⟩ ⟨h1,h2,h3,h4⟩
 simp only at h1 h2 h3 h4 ⊢
 match F,h1,h2,h3,h4 with
 | .nil,h1,h2,h3,h4 =>
  simp only [Forest.len] at h1
  have hkk:k=kids.len:=by omega
  subst hkk
  have hpl:(kids.len≤(El (kids.list.take kids.len)).length)=True:=eq_true (by rw [E5,List.length_take];omega)
  have htk:(El (kids.list.take kids.len)).take kids.len=El kids.list:=by
   rw [List.take_of_length_le (by rw [E5,List.length_take];omega),List.take_of_length_le (by omega)]
  have hgj:=hpl
  skip
  (refine Ax hm _ _ _ ?_;simp only [Ch,Ah,Bn,Bs,Ci,Fd,Cn,Ab,Co,B4,Bd,A0,Bb,Be,Az,Ce,Cb,Ba,Ai,B8,D5,C2,Cp,Cc,Bg,Br,Av,Aq,D1,Eh,B7,D7,He,Cv,Gi,C5,C4,Ag,Ae,A3,Cd,Bv,Bm,Bx,Bw,A5,Bk,E8,C1,B3,Dl,Il,Ek,Bi,Ay,A4,Jx,Aw,Ao,D2,K6,Hl,Af,Ct,F3,Fa,Dx,C9,C8,Ar,Cj,A2,Ad,Ac,Cg,Bf,A6,Ea,List.map_cons,List.map_nil,List.length_cons,List.length_nil,List.append_nil,List.flatMap_cons,List.flatMap_nil,List.drop_succ_cons,List.drop_zero,List.getElem?_cons_zero,decide_eq_true_eq,Nat.reduceLT,Nat.reduceLeDiff,Nat.reduceEqDiff,Nat.reduceAdd,Int.reduceToNat,Int.reduceLE,true_and,and_true,Ca,Bu,↓reduceIte,reduceCtorEq,Nat.zero_add,List.cons.injEq,Bool.true_and,Bool.and_true,Bool.or_false,Om,Mj,Jk,Kj,hg0])
  (repeat' (first | (refine iteI (fun h=>?_) (fun h=>?_))|(refine B2 (by first | omega | (simp (disch:=omega) only [Aa,Ak,Aj] at *;omega)) ?_;intro b hb)|(refine And.intro (by first | omega | (simp (disch:=omega) only [Aa,Ak,Aj] at *;omega)) ?_)|((first | (refine A9 hm (by rfl) (by kernel_rfl) ?_));simp only [Dm])|(exact True.intro)|(exfalso;omega)))
  rw [List.take_of_length_le (Nat.le_of_eq hkl)]
 | .cons nm' t' r,h1,h2,h3,h4 =>
  rw [Q3] at h1
  rw [Er] at h2 h3
  rw [List.length_append] at h3
  have hkk:kids.list[k]? = some (nm',t'):=by
   have:=congrArg (·[0]?) h4
   simpa [Forest.list] using this
  have hpk:=Qw hkk
  have hpl:(El (kids.list.take k)).length=k:=by rw [E5,List.length_take];omega
  have hw:=wj1 (i:=k) (by omega)
  have htk:=hw
  have hgj:=hw
  skip
  (refine Ax hm _ _ _ ?_;simp only [Ch,Ah,Bn,Bs,Ci,Fd,Cn,Ab,Co,B4,Bd,A0,Bb,Be,Az,Ce,Cb,Ba,Ai,B8,D5,C2,Cp,Cc,Bg,Br,Av,Aq,D1,Eh,B7,D7,He,Cv,Gi,C5,C4,Ag,Ae,A3,Cd,Bv,Bm,Bx,Bw,A5,Bk,E8,C1,B3,Dl,Il,Ek,Bi,Ay,A4,Jx,Aw,Ao,D2,K6,Hl,Af,Ct,F3,Fa,Dx,C9,C8,Ar,Cj,A2,Ad,Ac,Cg,Bf,A6,Ea,List.map_cons,List.map_nil,List.length_cons,List.length_nil,List.append_nil,List.flatMap_cons,List.flatMap_nil,List.drop_succ_cons,List.drop_zero,List.getElem?_cons_zero,decide_eq_true_eq,Nat.reduceLT,Nat.reduceLeDiff,Nat.reduceEqDiff,Nat.reduceAdd,Int.reduceToNat,Int.reduceLE,true_and,and_true,Ca,Bu,↓reduceIte,reduceCtorEq,Nat.zero_add,List.cons.injEq,Bool.true_and,Bool.and_true,Bool.or_false,Om,Mj,Jk,Kj,hg0])
  (repeat' (first | (refine iteI (fun h=>?_) (fun h=>?_))|(refine B2 (by first | omega | (simp (disch:=omega) only [Aa,Ak,Aj] at *;omega)) ?_;intro b hb)|(refine And.intro (by first | omega | (simp (disch:=omega) only [Aa,Ak,Aj] at *;omega)) ?_)|((first | (refine A9 hm (by rfl) (by kernel_rfl) ?_)|(refine Det.use (La v j nm' t' r.enc (by omega) h2) ?_)|(refine Det.useQ (La v j nm' t' r.enc (by omega) h2) ?_)|(refine Det.use (Xw v j (j+(t'.enc nm').length) nm' t' r.enc (by omega) h2 rfl) ?_)|(refine Det.useQ (Xw v j (j+(t'.enc nm').length) nm' t' r.enc (by omega) h2 rfl) ?_));simp only [Ah,Bn,Ab,Bo,Bd,A0,Bb,Cs,Be,Az,Ce,Cb,Ba,Ai,B8,Di,Fy,Cc,Bp,Av,B0,Aq,Hb,Cr,G1,Lz,Ag,Ae,A3,Cd,Bv,Bm,Bx,Bw,A5,Bq,B3,Bi,Ay,A4,Ib,Jm,Ii,Dh,Jl,Gz,G8,Ha,G6,H7,H1,G0,F1,G3,E7,Gb,Km,F6,Jb,Ar,B1,Cw,Fv,E6,G2,I5,F5,Cj,Ds,Fl,Db,Hf,Ad,Ac,Bl,Bf,A6,Ea,List.map_cons,List.map_nil,List.length_cons,List.length_nil,List.append_nil,List.flatMap_cons,List.flatMap_nil,List.take_succ_cons,List.take_nil,List.drop_zero,Nat.reduceLT,Nat.reduceLeDiff,Nat.reduceEqDiff,Nat.reduceMul,true_and,Ca,Bu,↓reduceIte,reduceCtorEq,Nat.zero_add,Bool.true_and,Bool.and_true,Bool.or_true,beq_self_eq_true,O1,Ty,Ld,hpl,htk])|(exact True.intro)|(exfalso;omega)))
  refine ⟨by simp,by omega,by omega,(k+1,j+(t'.enc nm').length,r),⟨by simp only;omega,by simp only;rw [← List.drop_drop,h2,List.drop_left],by simp only;omega,by simp only;rw [← List.drop_drop,h4];rfl⟩,by have:=Rx t' nm';simp only [Er,List.length_append];omega,?_⟩
  simp only
  rw [hpk]
  exact (St.le_slots (by simp only [Ck,Cm,Ac,Bj,Au,Nat.reduceEqDiff,reduceIte,Nat.reduceLT,Nat.reduceLeDiff];simp (disch:=omega) [Au,Bc,Cq,Aa] <;> (repeat' apply And.intro) <;> omega) (by simp (disch:=omega) [Dj,Eo,Dg,Bh,Au,Bc,Cq,Aa]) (by simp [Dk]))
end Go.LX
