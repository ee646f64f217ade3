/- Values: parts and names, handed on; rows of values as one. -/
import Derived.Test.YtmejkfclabmijaaGreatDoorPathTextsLxK
set_option linter.unusedSimpArgs false
set_option linter.unusedVariables false
set_option linter.unusedSectionVars false
set_option linter.unnecessarySimpa false
set_option maxRecDepth 100000
set_option maxHeartbeats 2000000
namespace Go.LX
open Go Go.RowKit Go.Proofs
attribute [local irreducible] B2 SWP Hb
theorem Jpg (nm:List UInt8) (kd:Int) (s:List UInt8) (g:Bool) (e:Int) (kids:Forest) (hv:kids.enc.length≤999999):Det cx 62 [.p (.sl (valL ((Tree.mk kd s g e kids).enc nm)))] [] (.own 900 0 kids.len) [(900,.row 34 1 (E3 kids.list))]:=by
 have hll:=Forest.len_le kids
 have hfl:=Forest.list_len kids
 (refine B2.of_code (X:=cx) true [(990,900),(500,900)] (by simp) Tryz.func62 (by kernel_rfl) rfl (by simp only [List.length_cons,List.length_nil,Tryz.ntmps62];decide) (by simp) ?_;refine Ax hm _ _ _ ?_;simp only [Tryz.ntmps62,Tryz.results62,Ah,Bm,Ab,Bd,A1,Bc,Ct,Bf,A0,Ch,E4,A9,Aj,Hv,Cg,Bo,Gy,Hw,Cu,Ag,Ae,A3,Cf,Bv,Bi,Bz,Bx,A4,B6,Bh,Az,A5,B4,Ez,Cl,Ad,Ac,Bn,Bg,Bb,argW,List.map_cons,List.map_nil,List.append_nil,List.flatMap_cons,List.flatMap_nil,Nat.reduceLT,Nat.reduceEqDiff,true_and,Cc,Bw,↓reduceIte,reduceCtorEq,Bool.true_and,Jpb])
 (repeat' (first | (refine iteI (fun h=>?_) (fun h=>?_))|(refine B1 (by first | omega | (simp (disch:=omega) only [Aa,Ak,Ai] at *;omega)) ?_;intro b hb)|(refine And.intro (by first | omega | (simp (disch:=omega) only [Aa,Ak,Ai] at *;omega)) ?_)|((first | (refine Ba hm (by rfl) (by kernel_rfl) ?_)|(refine Det.use (Sn _) ?_)|(refine Det.useQ (Sn _) ?_));simp only [Ce,Ab,Bd,Ct,Iw,Ik,D3,Hq,G2,Dz,Hk,H6,Lo,Fm,Fh,Ih,Hs,Hl,Jz,Bu,Jt,Hm,Ft,Gl,Eg,B6,Fi,T9,Gw,Y2,Aw,C7,El,Cz,Ad,Cq,Bg,Bb,List.map_cons,List.map_nil,List.cons_append,List.nil_append,decide_eq_true_eq,ne_eq,not_false_eq_true,Nat.reduceLT,Nat.reduceEqDiff,↓reduceIte])|(exact True.intro)|(exfalso;omega)))
 refine SWP.of_le (St.le_nilCell _ (b:=3) (j:=0) (d:=500) 34 1 (.inl (by decide)) (T':=44) (cs:=[.p .snil]) rfl rfl) ?_
 simp only [St.nilCell,St.nilReg,X0,Jhl,Jhu,Aw,B4,C4,Cp,Hy,Ez,H8,Jh0,Bn,Bg,Bb,List.map_cons,List.map_nil,List.contains_cons,List.contains_nil,List.set_cons_zero,Nat.reduceEqDiff,Nat.reduceBEq,↓reduceIte,Bool.false_eq_true,Bool.or_false]
 (refine SWP.range (M8 kids) 15 [(13,500000)] (by simp) _ _ _ _ _ (fun k R=>R=[(500000,.row 34 1 (E3 (kids.list.take k))),(1001,.var 44 [.own 500000 0 k])]) (fun _ _=>False) (by rfl) (by rfl) (by rfl) (Jc5 nm kd s g e kids hv) (by simp only [F4,Dx,Dk,Kn,N8,I9,Kh,Yy,Zi,C6,Bg,Bb,List.map_cons,List.map_nil,List.contains_cons,List.contains_nil,Nat.reduceEqDiff,↓reduceIte,Bool.or_false,beq_self_eq_true] <;> rfl) (by first | rfl | simp [Kv]) (by simp) ?hps (by simp only [S6,Sy,Yu,Nat.reduceLT,Nat.reduceLeDiff,Nat.reduceAdd,and_true,↓reduceIte,Nat.zero_add,Bool.and_true] <;> rfl) (by simp only [D7,B6,Fi,H7,Gw,Jgn,O0,Cq,Bg,Bb,Nat.reduceLT,Nat.reduceEqDiff,↓reduceIte] <;> rfl) (by simp only [D7,Gn,Fr,Fq,Eg,Di,D2,Ey,List.map_cons,List.map_nil,Nat.reduceEqDiff,↓reduceIte] <;> rfl) ?h0 ?hkI ?hkS ?hSn ?round ?done ?stop)
 case hps=>exact fun x hx=>Qg hx
 case h0=>rfl
 case hkI=>rintro k R rfl;simp [So,findKey]
 case hkS=>exact fun _ _ h=>h.elim
 case hSn=>exact fun _ h=>h
 case stop=>exact fun _ _ h=>h.elim
 case round =>
  rintro k x R l hx rfl
  obtain ⟨p,hp,rfl⟩:=Qe hx
  have hkl:=(List.getElem?_eq_some_iff.1 hp).1
  simp only [Bd,A1,Bc,Bf,Aj,Rn,Mn,Nl,Ad,Ac,List.map_cons,List.map_nil,Nat.reduceLT,↓reduceIte]
  (refine Ax hm _ _ _ ?_;simp only [Ah,Ce,Bk,Bd,A1,Bc,C1,Ct,Bf,A9,Ed,Fk,Df,F8,Bo,Bl,C5,Dv,E0,Cu,G6,Mj,M9,Iz,Fj,Ii,Ef,Ag,Ae,A3,Bu,Fn,Eg,Di,B6,Fi,D2,H7,Gw,Ey,Ht,Ji,Il,Dg,Jg,Gp,Gr,Gs,Gu,Hu,Ho,Hc,F5,G5,E1,Gg,Kz,F2,Jk,Af,C3,Gj,Fl,D8,Dr,Du,Aw,B4,C4,Cp,Hy,Fy,Ez,G7,H8,Ga,C7,El,Cz,F1,O1,Ad,Ac,Bn,Cq,Bg,Bb,List.map_cons,List.map_nil,List.length_cons,List.length_nil,List.nil_append,List.append_nil,List.take_succ_cons,List.take_zero,List.take_nil,List.drop_succ_cons,List.drop_zero,List.drop_nil,List.getElem?_cons_zero,ne_eq,not_false_eq_true,Nat.reduceLT,Nat.reduceLeDiff,Nat.reduceEqDiff,Nat.reduceMul,true_and,Cc,↓reduceIte,reduceCtorEq,Nat.zero_add,Bool.true_and,Bool.and_true,beq_self_eq_true,Ph,Ul,Ja9,Ja6,Lx])
  (repeat' (first | (refine iteI (fun h=>?_) (fun h=>?_))|(refine B1 (by first | omega | (simp (disch:=omega) only [Aa,Ak,Ai] at *;omega)) ?_;intro b hb)|(refine And.intro (by first | omega | (simp (disch:=omega) only [Aa,Ak,Ai] at *;omega)) ?_)|((first | (refine Ba hm (by rfl) (by kernel_rfl) ?_));simp only [Dh])|(exact True.intro)|(exfalso;omega)))
  refine ⟨by simp,by rw [Fo,List.length_take];omega,by omega,by omega,_,rfl,?_⟩
  rw [Rs hp]
  exact (St.le_slots (by simp only [Ck]) (by simp (disch:=omega) [Dc,Ee,C9,Bj,Aq,A8,Cm,Aa]) (by simp [De]))
 case done =>
  rintro R rfl
  rw [O4,List.take_of_length_le (by omega)]
  simp only [D3,Gk,Dz,Es,Hk,Hp,Fm,Fh,Fs,Fx,Fv,Hl,Jd,D6,Bu,D7,Iu,Ip,Ft,Gl,Eg,Di,B6,Fi,D2,H7,Gw,Ey,Aw,Cq,Bg,Bb,List.map_cons,List.map_nil,List.nil_append,Nat.reduceLeDiff,Nat.reduceEqDiff,↓reduceIte]
  refine ⟨_,St.Le.refl _,?_⟩
  simp only [Ah,Bm,Cn,Ab,Bk,Bd,A1,Bc,Bf,Aj,Ed,Bl,C5,Dv,E0,D6,Bu,Fn,Eg,Di,B6,Fi,D2,H7,Gw,Ey,Km,Av,Ap,Em,Ls,H5,Af,C3,Gj,Mx,Fl,D8,Dr,Du,Aw,A2,Ad,Ac,Cq,Bg,Bb,List.map_cons,List.map_nil,List.getElem?_cons_zero,Nat.reduceLT,Nat.reduceEqDiff,Cc,↓reduceIte,and_self,Ja9,Ja6]
theorem o_Names (nm:List UInt8) (s:List UInt8) (g:Bool) (e:Int) (kids:Forest) (hv:kids.enc.length≤999999):Det cx 124 [.p (.sl (valL ((Tree.mk 6 s g e kids).enc nm)))] [] (.own 900 0 kids.len) [(900,.row 9 1 (Gd kids.list))]:=by
 have hll:=Forest.len_le kids
 have hfl:=Forest.list_len kids
 skip
 (refine B2.of_code (X:=cx) true [(990,900),(500,900)] (by simp) Tryz.func124 (by kernel_rfl) rfl (by simp only [List.length_cons,List.length_nil,Tryz.ntmps124];decide) (by simp) ?_;refine Ax hm _ _ _ ?_;simp only [Tryz.ntmps124,Tryz.results124,Ah,Bm,Br,Ab,Bd,A1,Bc,Ct,Bf,A0,Ch,Ca,E4,A9,Aj,B8,Ed,C8,Cv,Hv,Cg,Bo,Bl,Bq,Au,Bt,Ar,G0,Eo,Cj,Ei,G8,C0,Gb,C5,Dd,Gy,Hw,Cu,Ag,Ae,A3,Cf,Bv,Bi,Bz,Bx,A4,B6,Bh,Az,A5,B4,Ez,Cl,Ad,Ac,Bn,Bg,Bb,argW,List.map_cons,List.map_nil,List.length_cons,List.length_nil,List.append_nil,List.flatMap_cons,List.flatMap_nil,List.drop_zero,List.getElem?_cons_zero,Nat.reduceLT,Nat.reduceLeDiff,Nat.reduceEqDiff,Nat.reduceAdd,Int.reduceToNat,Int.reduceLE,true_and,Cc,Bw,↓reduceIte,reduceCtorEq,Nat.zero_add,Bool.true_and,Bool.or_true,beq_self_eq_true,Ox,Mm,Kc,Lm,f_z67,Nn])
 (repeat' (first | (refine iteI (fun h=>?_) (fun h=>?_))|(refine B1 (by first | omega | (simp (disch:=omega) only [Aa,Ak,Ai] at *;omega)) ?_;intro b hb)|(refine And.intro (by first | omega | (simp (disch:=omega) only [Aa,Ak,Ai] at *;omega)) ?_)|((first | (refine Ba hm (by rfl) (by kernel_rfl) ?_)|(refine Det.use (Sn _) ?_)|(refine Det.useQ (Sn _) ?_));simp only [Ce,Ab,Bd,Ct,Iw,Ik,D3,Hq,G2,Dz,Hk,H6,Lo,Fm,Fh,Ih,Hs,Hl,Jz,Bu,Jt,Hm,Ft,Gl,Eg,B6,Fi,T9,Jl,Gw,Y2,Aw,C7,El,Cz,Ad,Cq,Bg,Bb,List.map_cons,List.map_nil,List.cons_append,List.nil_append,decide_eq_true_eq,ne_eq,not_false_eq_true,Nat.reduceLT,Nat.reduceEqDiff,↓reduceIte])|(exact True.intro)|(exfalso;omega)))
 refine SWP.of_le (St.le_nilCell _ (b:=3) (j:=0) (d:=500) 9 1 (.inl (by decide)) (T':=67) (cs:=[.p .snil]) rfl rfl) ?_
 simp only [St.nilCell,St.nilReg,X0,Jhl,Jhu,Aw,B4,C4,Cp,Hy,Ez,Jr,H8,Jh0,Bn,Bg,Bb,List.map_cons,List.map_nil,List.contains_cons,List.contains_nil,List.set_cons_zero,Nat.reduceEqDiff,Nat.reduceBEq,↓reduceIte,Bool.false_eq_true,Bool.or_false]
 (refine SWP.range (M8 kids) 19 [(17,500000)] (by simp) _ _ _ _ _ (fun k R=>R=[(500000,.row 9 1 (Gd (kids.list.take k))),(1001,.var 67 [.own 500000 0 k])]) (fun _ _=>False) (by rfl) (by rfl) (by rfl) (Jc5 nm 6 s g e kids hv) (by simp only [F4,Dx,Dk,Kn,N8,I9,Pg,Kh,Yy,Zi,C6,Bg,Bb,List.map_cons,List.map_nil,List.contains_cons,List.contains_nil,Nat.reduceEqDiff,↓reduceIte,Bool.or_false,beq_self_eq_true] <;> rfl) (by first | rfl | simp [Kv]) (by simp) ?hps (by simp only [S6,Sy,Yu,Nat.reduceLT,Nat.reduceLeDiff,Nat.reduceAdd,and_true,↓reduceIte,Nat.zero_add,Bool.and_true] <;> rfl) (by simp only [D7,B6,Fi,Jl,H7,Gw,Jgn,O0,Cq,Bg,Bb,Nat.reduceLT,Nat.reduceEqDiff,↓reduceIte] <;> rfl) (by simp only [D7,Gn,Fr,Fq,Eg,Di,D2,Ey,List.map_cons,List.map_nil,Nat.reduceEqDiff,↓reduceIte] <;> rfl) ?h0 ?hkI ?hkS ?hSn ?round ?done ?stop)
 case hps=>exact fun x hx=>Qg hx
 case h0=>rfl
 case hkI=>rintro k R rfl;simp [So,findKey]
 case hkS=>exact fun _ _ h=>h.elim
 case hSn=>exact fun _ h=>h
 case stop=>exact fun _ _ h=>h.elim
 case round =>
  rintro k x R l hx rfl
  obtain ⟨p,hp,rfl⟩:=Qe hx
  have hkl:=(List.getElem?_eq_some_iff.1 hp).1
  simp only [Bd,A1,Bc,Bf,Aj,Rn,Mn,Nl,Ad,Ac,List.map_cons,List.map_nil,Nat.reduceLT,Nat.reduceEqDiff,↓reduceIte]
  (refine Ax hm _ _ _ ?_;simp only [Ah,Ce,Bk,Bd,A1,Bc,C1,Ct,Bf,A9,Ed,Fk,Df,F8,Bo,Bl,C5,Dv,E0,Cu,G6,Lh,M9,Iz,Fj,Ii,Ef,Ag,Ae,A3,Bu,Fn,Eg,Di,B6,Fi,D2,Jl,H7,Gw,Ey,Ht,Ji,Il,Dg,Jg,Gp,Gr,Gs,Gu,Hu,Ho,Hc,F5,G5,E1,Gg,Kz,F2,Jk,Af,C3,Gj,Fl,D8,Dr,Du,Aw,B4,C4,Cp,Hy,Fy,Ez,G7,Jr,H8,Ga,C7,El,Cz,F1,O1,Ad,Ac,Bn,Cq,Bg,Bb,List.map_cons,List.map_nil,List.length_cons,List.length_nil,List.nil_append,List.append_nil,List.take_succ_cons,List.take_zero,List.take_nil,List.drop_succ_cons,List.drop_zero,List.drop_nil,List.getElem?_cons_zero,ne_eq,not_false_eq_true,Nat.reduceLT,Nat.reduceLeDiff,Nat.reduceEqDiff,Nat.reduceMul,true_and,Cc,↓reduceIte,reduceCtorEq,Nat.zero_add,Bool.true_and,Bool.and_true,beq_self_eq_true,W6,Jfr,Joz,Jow,Ln])
  (repeat' (first | (refine iteI (fun h=>?_) (fun h=>?_))|(refine B1 (by first | omega | (simp (disch:=omega) only [Aa,Ak,Ai] at *;omega)) ?_;intro b hb)|(refine And.intro (by first | omega | (simp (disch:=omega) only [Aa,Ak,Ai] at *;omega)) ?_)|((first | (refine Ba hm (by rfl) (by kernel_rfl) ?_));simp only [Dh])|(exact True.intro)|(exfalso;omega)))
  refine ⟨by simp,by rw [Gc,List.length_take];omega,by omega,by omega,_,rfl,?_⟩
  rw [Xg hp]
  exact (St.le_slots (by simp only [Ck]) (by simp (disch:=omega) [Dc,Ee,C9,Bj,Aq,A8,Cm,Aa]) (by simp [De]))
 case done =>
  rintro R rfl
  rw [O4,List.take_of_length_le (by omega)]
  simp only [D3,Gk,Dz,Es,Hk,Hp,Fm,Fh,Fs,Fx,Fv,Hl,Jd,D6,Bu,D7,Iu,Ip,Ft,Gl,Eg,Di,B6,Fi,D2,Jl,H7,Gw,Ey,Aw,Cq,Bg,Bb,List.map_cons,List.map_nil,List.nil_append,Nat.reduceLeDiff,Nat.reduceEqDiff,↓reduceIte]
  refine ⟨_,St.Le.refl _,?_⟩
  simp only [Ah,Bm,Cn,Ab,Bk,Bd,A1,Bc,Bf,Aj,Ed,Bl,C5,Dv,E0,D6,Bu,Fn,Eg,Di,B6,Fi,D2,Jl,H7,Gw,Ey,Km,Av,Ap,Em,Ls,H5,Af,C3,Gj,Mx,Fl,D8,Dr,Du,Aw,A2,Ad,Ac,Cq,Bg,Bb,List.map_cons,List.map_nil,List.getElem?_cons_zero,Nat.reduceLT,Nat.reduceEqDiff,Cc,↓reduceIte,and_self,Joz,Jow]
theorem Je1 (es:List (List PV)) (n:Nat) (x:List UInt8) (h:es.length=n) (hn:n≤1000000):Det cx 127 [.own 1000 0 n,.p (.int .i64 n),.own 1001 0 1] [(1001,.row 9 1 [[.str x]]),(1000,.row 9 1 es)] (.own 900 0 (n+1)) [(900,.row 9 1 (es ++ [[.str x]])),(1001,.row 9 1 [[.str x]])]:=by
 (refine B2.of_code (X:=cx) true [(25,900)] (by simp) Tryz.func127 (by kernel_rfl) rfl (by simp only [List.length_cons,List.length_nil,Tryz.ntmps127];decide) (by simp) ?_;refine Ax hm _ _ _ ?_;simp only [Tryz.ntmps127,Tryz.results127,Cb,Ah,Bm,Br,Cn,Ab,B3,Bd,A1,Bc,Ct,Bf,A0,Ca,E4,A9,Aj,B8,E7,Dw,F8,Bo,Bq,Au,Bt,Ar,G0,Ds,F3,Ev,D5,E2,Pb,Mz,Oj,O7,Cu,G6,D6,Bu,Fn,Di,B6,D2,H7,Ey,Il,Hc,F5,G5,E1,Gg,Kz,F2,Jk,Km,Av,Ap,Em,Al,Ls,H5,Af,C3,Gj,Mx,Fl,D8,Dr,Du,Ay,Aw,B4,C4,Fy,Ez,G7,Ga,A2,Ad,Ac,Bn,Cq,Bg,Bb,argW,List.map_cons,List.map_nil,List.length_cons,List.length_nil,List.take_succ_cons,List.take_nil,List.drop_zero,beq_iff_eq,Nat.reduceLT,Nat.reduceLeDiff,Nat.reduceEqDiff,Nat.reduceAdd,true_and,and_true,Cc,↓reduceIte,reduceCtorEq,Int.toNat_natCast,Int.natCast_nonneg,Nat.zero_add,List.cons.injEq,Bool.true_and,Bool.and_true,Bool.or_false,Bool.or_true,beq_self_eq_true,and_self,Kg,W6,Jfr,M4,Ln])
 (repeat' (first | (refine iteI (fun h=>?_) (fun h=>?_))|(refine B1 (by first | omega | (simp (disch:=omega) only [Aa,Ak,Ai] at *;omega)) ?_;intro b hb)|(refine And.intro (by first | omega | (simp (disch:=omega) only [Aa,Ak,Ai] at *;omega)) ?_)|((first | (refine Ba hm (by rfl) (by kernel_rfl) ?_));simp only [Dh])|(exact True.intro)|(exfalso;omega)))
 exact ⟨by simp,(by assumption),by omega,by omega⟩
theorem Jfq (es:List (List PV)) (n:Nat) (x:PV) (hx:x.scalar=true) (h:es.length=n) (hn:n≤1000000):Det cx 128 [.own 1000 0 n,.p (.int .i64 n),.own 1001 0 1] [(1001,.row 34 1 [[x]]),(1000,.row 34 1 es)] (.own 900 0 (n+1)) [(900,.row 34 1 (es ++ [[x]])),(1001,.row 34 1 [[x]])]:=by
 (refine B2.of_code (X:=cx) true [(25,900)] (by simp) Tryz.func128 (by kernel_rfl) rfl (by simp only [List.length_cons,List.length_nil,Tryz.ntmps128];decide) (by simp) ?_;refine Ax hm _ _ _ ?_;simp only [Tryz.ntmps128,Tryz.results128,Cb,Ah,Bm,Br,Cn,Ab,B3,Bd,A1,Bc,Ct,Bf,A0,Ca,E4,A9,Aj,B8,E7,Dw,F8,Bo,Bq,Au,Bt,Ar,G0,Ds,F3,Ev,D5,E2,Pb,Mz,Oj,O7,Cu,G6,D6,Bu,Fn,Di,B6,D2,H7,Ey,Il,Hc,F5,G5,E1,Gg,Kz,F2,Jk,Km,Av,Ap,Em,Al,Ls,H5,Af,C3,Gj,Mx,Fl,D8,Dr,Du,Ay,Aw,B4,C4,Fy,Ez,G7,Ga,A2,Ad,Ac,Bn,Cq,Bg,Bb,argW,List.map_cons,List.map_nil,List.length_cons,List.length_nil,List.take_succ_cons,List.take_nil,List.drop_zero,beq_iff_eq,Nat.reduceLT,Nat.reduceLeDiff,Nat.reduceEqDiff,Nat.reduceAdd,true_and,and_true,Cc,↓reduceIte,reduceCtorEq,Int.toNat_natCast,Int.natCast_nonneg,Nat.zero_add,List.cons.injEq,Bool.true_and,Bool.and_true,Bool.or_false,Bool.or_true,beq_self_eq_true,and_self,Ng,Ph,Ul,Ps,Lx])
 (repeat' (first | (refine iteI (fun h=>?_) (fun h=>?_))|(refine B1 (by first | omega | (simp (disch:=omega) only [Aa,Ak,Ai] at *;omega)) ?_;intro b hb)|(refine And.intro (by first | omega | (simp (disch:=omega) only [Aa,Ak,Ai] at *;omega)) ?_)|((first | (refine Ba hm (by rfl) (by kernel_rfl) ?_));simp only [Dh])|(exact True.intro)|(exfalso;omega)))
 exact ⟨by simp,(by assumption),by omega,by omega⟩
theorem R8 (t:Tree) (nm:List UInt8):(t.enc nm).length=(t.enc []).length:=by
 cases t;rw [Gx,Gx];simp
end Go.LX
set_option maxRecDepth 100000
set_option maxHeartbeats 2000000
namespace Go.LX
open Go Go.RowKit Go.Proofs
attribute [local irreducible] B2 SWP Hb
theorem Lw (v:List Node) (i:Nat) (nm:List UInt8) (t:Tree) (rest:List Node) (hv:v.length≤1000000) (h:v.drop i=t.enc nm ++ rest):Det cx 65 [.p (.sl (valL v)),.p (.int .i64 i)] [] (.p (.int .i64 (i+(t.enc nm).length:Nat))) []:=by
 (refine B2.of_code (X:=cx) false [] (by simp) Tryz.func65 (by kernel_rfl) rfl (by simp only [List.length_cons,List.length_nil,Tryz.ntmps65];decide) (by simp) ?_;refine Ax hm _ _ _ ?_;simp only [Tryz.ntmps65,Tryz.results65,Ah,Bm,Ce,He,Ab,Bd,A1,Bc,A0,Ca,Aj,Ad,argW,List.map_cons,List.map_nil,Int.reduceNeg,Cc,Nat.zero_add])
 have hp:=R7 t nm
 have hb:=Jd9 h (fun e=>by have e2:(t.enc nm ++ rest).length=0:=(by rw [e];rfl);rw [List.length_append] at e2;omega)
 rw [List.length_append] at hb
 refine SWP.loop (fun x:Nat×Nat×Forest=>⟨Fp 41 [(0,.p (.sl (valL v))),(1,.p (.int .i64 x.1)),(5,.p (.int .i64 x.2.1))],[]⟩) (fun x=>x.2.1=x.2.2.len∧v.drop x.1=x.2.2.enc ++ rest∧x.1+x.2.2.enc.length=i+(t.enc nm).length) (fun x=>x.2.2.enc.length) (i,1,.cons nm t .nil) (St.le_slots (by simp only [Cd,Ck,Ac,Be,Aq,Nat.reduceEqDiff,reduceIte,Nat.reduceLT,Nat.reduceLeDiff];simp (disch:=omega) [Aq,A8,Cm,Aa] <;> (repeat' apply And.intro) <;> omega) (by simp (disch:=omega) [Dc,Ee,C9,Bj,Aq,A8,Cm,Aa]) (by simp [De])) ⟨rfl,by simp [E9,J1,h],by simp [E9,J1]⟩ ?_
 rintro ⟨j,left,F⟩ ⟨h0,h1,h2⟩
 simp only at h0 h1 h2
 match F,h0,h1,h2 with
 | .nil,h0,h1,h2 =>
  rw [J1] at h2
  simp only [Forest.len] at h0
  subst h0
  (refine Ax hm _ _ _ ?_;simp only [Cb,Ah,Bm,Br,Ce,Eh,Cn,Ab,Ci,B3,B0,Ea,Bd,A1,Da,Bc,D9,Bf,A0,Cw,Ca,A9,Aj,B8,D0,Cv,Dw,Bq,C2,Dq,D1,Dn,Au,Bt,Ar,Je,Lc,Ds,D4,Cj,Ei,Ag,Ae,A3,Bs,Cs,Cr,A6,A7,B9,Av,Ap,Al,B7,B5,Af,Am,Ao,Co,Ay,A2,Ad,Ac,Dy,List.map_cons,List.map_nil,List.getD_cons_zero,List.getD_cons_succ,decide_eq_true_eq,Nat.reduceLT,Nat.reduceEqDiff,Int.reduceNeg,true_and,and_true,Cc,↓reduceIte,reduceCtorEq,Int.toNat_natCast,Int.natCast_nonneg,L.p.injEq,PV.int.injEq,Bool.false_eq_true,Bool.true_and,Bool.and_true,Bool.or_false,Bool.or_true,Qx,Kc])
  (repeat' (first | (refine iteI (fun h=>?_) (fun h=>?_))|(refine B1 (by first | omega | (simp (disch:=omega) only [Aa,Ak,Ai] at *;omega)) ?_;intro b hb)|(refine And.intro (by first | omega | (simp (disch:=omega) only [Aa,Ak,Ai] at *;omega)) ?_)|((first | (refine Ba hm (by rfl) (by kernel_rfl) ?_));simp only [Dh])|(exact True.intro)|(exfalso;omega)))
  simp only [List.length_nil] at h2
  omega
 | .cons nm' (.mk k s g e kids) r,h0,h1,h2 =>
  rw [Rm] at h0
  rw [E9,Gx] at h1 h2
  have hg:=Pm h1
  rw [Nq] at hg
  simp only [List.length_cons,List.length_append] at h2
  have hl1:=Forest.len_le kids
  have hl2:=Forest.len_le r
  have w0:IntKind.i64.wrap ((left:Int) - 1)=(r.len:Int):=by rw [Aa (by omega) (by omega)];omega
  have w1:IntKind.i64.wrap ((r.len:Int)+(kids.len:Int))=((r.len+kids.len:Nat):Int):=by rw [Aa (by omega) (by omega)];omega
  skip
  (refine Ax hm _ _ _ ?_;simp only [Cb,Ah,Bm,Br,Ce,Eh,Cn,Ab,Ci,B3,Bk,B0,Ea,Bd,A1,Da,Bc,D9,Bf,A0,Cw,Ca,A9,Aj,B8,D0,Ed,C8,Cv,Dw,Bl,Bq,C2,Dq,D1,Dn,Au,Bt,Ar,E8,M5,Dm,Je,Lc,Ds,D4,Eo,Cj,Ei,G8,C0,Gb,C5,Dd,Ag,Ae,A3,Bs,Cs,Cr,A6,A7,B9,Av,Ap,Al,B7,B5,Af,Am,Ao,Co,Ay,A2,Ad,Ac,Dy,List.map_cons,List.map_nil,List.getD_cons_zero,List.getD_cons_succ,List.length_cons,List.length_nil,List.drop_succ_cons,List.drop_zero,List.getElem?_cons_zero,decide_eq_true_eq,Nat.reduceLT,Nat.reduceLeDiff,Nat.reduceEqDiff,Nat.reduceAdd,Int.reduceNeg,true_and,and_true,Cc,↓reduceIte,reduceCtorEq,Int.toNat_natCast,Int.natCast_nonneg,Nat.zero_add,L.p.injEq,PV.int.injEq,Bool.false_eq_true,Bool.true_and,Bool.and_true,Bool.or_false,Bool.or_true,Ox,Mm,Qx,Kc,Lb,wj1 (i:=j) (by omega),hg,w0,w1,Js])
  (repeat' (first | (refine iteI (fun h=>?_) (fun h=>?_))|(refine B1 (by first | omega | (simp (disch:=omega) only [Aa,Ak,Ai] at *;omega)) ?_;intro b hb)|(refine And.intro (by first | omega | (simp (disch:=omega) only [Aa,Ak,Ai] at *;omega)) ?_)|((first | (refine Ba hm (by rfl) (by kernel_rfl) ?_));simp only [Dh])|(exact True.intro)|(exfalso;omega)))
  ·exact ⟨(j+1,r.len+kids.len,kids.app r),⟨by simp only [Forest.len_app];omega,by
    simp only [Forest.enc_app]
    rw [← List.drop_drop,h1];simp,by simp only [Forest.enc_app,List.length_append];omega⟩,by simp only [Forest.enc_app,E9,Gx,List.length_append,List.length_cons];omega,(St.le_slots (by simp only [Cd,Ck,Ac,Be,Aq,Nat.reduceEqDiff,reduceIte,Nat.reduceLT,Nat.reduceLeDiff];simp (disch:=omega) [Aq,A8,Cm,Aa] <;> (repeat' apply And.intro) <;> omega) (by simp (disch:=omega) [Dc,Ee,C9,Bj,Aq,A8,Cm,Aa]) (by simp [De]))⟩
end Go.LX
set_option maxRecDepth 100000
set_option maxHeartbeats 2000000
namespace Go.LX
open Go Go.RowKit Go.Proofs
attribute [local irreducible] B2 SWP Hb
theorem Yb (v:List Node) (i j:Nat) (nm:List UInt8) (t:Tree) (rest:List Node) (hv:v.length≤1000000) (h:v.drop i=t.enc nm ++ rest) (hj:j=i+(t.enc nm).length):Det cx 103 [.p (.sl (valL v)),.p (.int .i64 i),.p (.int .i64 j)] [] (.p (.sl (valL (t.enc [])))) []:=by
 cases t with
 | mk k s g e kids =>
 have hs:=Jf6 h
 have hb:=Jd9 h (fun e=>by have e2:=congrArg List.length e;rw [Gx] at e2;simp at e2)
 have hel:((Tree.mk k s g e kids).enc nm).length=kids.enc.length+1:=by rw [Gx];rfl
 rw [List.length_append] at hb
 have hs':((valL v).drop i).take (j - i)=[.int .i64 k,.int .i64 kids.len,.str nm,.str s,.bool g,.int .i64 e] :: valL kids.enc:=by
  rw [hj,Nat.add_sub_cancel_left,hs,Gx,Jao,Nq]
 have htk:(valL kids.enc).take kids.enc.length=valL kids.enc:=List.take_of_length_le (by simp)
 have h6:∀ q∈([.int .i64 k,.int .i64 kids.len,.str nm,.str s,.bool g,.int .i64 e] :: valL kids.enc:List (List PV)),q.length=6:=fun q hq=>Pk ((Tree.mk k s g e kids).enc nm) q (by rw [Gx];exact hq)
 skip
 (refine B2.of_code (X:=cx) false [] (by simp) Tryz.func103 (by kernel_rfl) rfl (by simp only [List.length_cons,List.length_nil,Tryz.ntmps103];decide) (by simp) ?_;refine Ax hm _ _ _ ?_;simp only [Tryz.ntmps103,Tryz.results103,Ah,Bm,Cn,Ab,Bd,A1,Bc,C1,Ct,Bf,A0,Ca,F6,E4,A9,Aj,Ed,Fk,C8,Cv,E7,Hv,Df,F8,Bo,Bl,Cj,Lj,Lg,C0,G3,Jb,Jm3,C5,F7,G1,Jar,D5,E2,Jh7,Gf,Gy,Hw,Cu,G6,E5,Lh,Iz,Vs,Vw,Vr,Sf,Fj,Ii,Ef,Oy,Ag,Ae,A3,E6,Fu,En,F4,Ht,Ji,Il,Dg,Jg,Gp,Hu,Hc,F5,P9,Me,Gg,Kz,Bs,Cs,Cr,A6,A7,B9,Av,Ap,Al,B7,B5,Af,Am,Ao,Co,Ay,Aw,B4,C4,Cp,Dx,Dk,Fy,Kn,Ez,G7,H8,Ga,I9,Te,Kh,G9,C7,El,Cz,F1,A2,Ad,Ac,Bn,C6,Bg,Bb,argW,List.map_cons,List.map_nil,List.length_cons,List.length_nil,List.cons_append,List.nil_append,List.append_nil,List.take_succ_cons,List.take_zero,List.take_nil,List.drop_succ_cons,List.drop_zero,List.drop_nil,List.set_cons_zero,List.getElem?_cons_zero,ne_eq,not_false_eq_true,Nat.reduceLT,Nat.reduceLeDiff,Nat.reduceEqDiff,Nat.reduceAdd,Nat.reduceMul,Int.reduceToNat,Int.reduceLE,true_and,and_true,Cc,↓reduceIte,reduceCtorEq,Int.toNat_natCast,Int.natCast_nonneg,Nat.zero_add,L.p.injEq,Bool.true_and,Bool.and_true,Kg,Qx,Kc,Jpu,Jg0,Tr,Sd,Yv,hs',Js,htk,Nat.le_refl])
 (repeat' (first | (refine And.intro (Pk _) ?_)|(refine iteI (fun h=>?_) (fun h=>?_))|(refine B1 (by first | omega | (simp (disch:=omega) only [Aa,Ak,Ai] at *;omega)) ?_;intro b hb)|(refine And.intro (by first | omega | (simp (disch:=omega) only [Aa,Ak,Ai] at *;omega)) ?_)|((first | (refine Ba hm (by rfl) (by kernel_rfl) ?_));simp only [Dh])|(exact True.intro)|(exfalso;omega)))
 rw [Gx];rfl
theorem Jjq {v:List Node} {j:Nat} {nm:List UInt8} {t:Tree} {b:List Node} (h:v.drop j=t.enc nm ++ b):∃ k n s g e,(valL v)[j]? = some [.int .i64 k,.int .i64 n,.str nm,.str s,.bool g,.int .i64 e]:=by
 cases t with
 | mk k s g e kids =>
  rw [Gx] at h
  exact ⟨k,kids.len,s,g,e,Pm h⟩
theorem Jeo (nm:List UInt8) (kd:Int) (s:List UInt8) (g:Bool) (e:Int) (kids:Forest) (hv:kids.enc.length≤999999):Det cx 43 [.p (.sl (valL ((Tree.mk kd s g e kids).enc nm)))] [] (.p (.sl (E3 kids.list))) []:=by
 have hl:=Forest.len_le kids
 have hkl:=Forest.list_len kids
 generalize hvv:(Tree.mk kd s g e kids).enc nm=v
 have h0:v.drop 0=⟨kd,kids.len,nm,s,g,e⟩ :: kids.enc:=by rw [← hvv,Gx];rfl
 have hg0:=Pm h0
 rw [Nq] at hg0
 have hvl:v.length=kids.enc.length+1:=by rw [← hvv,Gx];rfl
 skip
 (refine B2.of_code (X:=cx) false [] (by simp) Tryz.func43 (by kernel_rfl) rfl (by simp only [List.length_cons,List.length_nil,Tryz.ntmps43];decide) (by simp) ?_;refine Ax hm _ _ _ ?_;simp only [Tryz.ntmps43,Tryz.results43,Ah,Bm,Ce,He,Ab,Bd,A1,Bc,Ct,Bf,A0,Ca,E4,Aj,Df,Bo,Cu,Ag,Ht,Ji,Il,Dg,Jg,Gp,Hu,B4,Ez,Ad,Ac,Bn,Bg,Bb,argW,List.map_cons,List.map_nil,List.length_cons,List.length_nil,Nat.reduceLT,Nat.reduceLeDiff,Nat.reduceMul,true_and,Cc,↓reduceIte,Nat.zero_add,Bool.true_and,Ph,Lx])
 (repeat' (first | (refine iteI (fun h=>?_) (fun h=>?_))|(refine B1 (by first | omega | (simp (disch:=omega) only [Aa,Ak,Ai] at *;omega)) ?_;intro b hb)|(refine And.intro (by first | omega | (simp (disch:=omega) only [Aa,Ak,Ai] at *;omega)) ?_)|((first | (refine Ba hm (by rfl) (by kernel_rfl) ?_));simp only [Dh])|(exact True.intro)|(exfalso;omega)))
 refine SWP.of_le (Jh [(7,25)] _ (by simp)) ?_
 simp only [Bu,Fn,Di,B6,D2,Ey,Af,C3,Gj,Fl,D8,Dr,Du,Cq,Bg,Bb,↓reduceIte]
 refine SWP.loop (fun x:Nat×Nat×Forest=>⟨Fp 28 [(0,.p (.sl (valL v))),(3,.own 25 0 x.1),(4,.p (.int .i64 x.2.1)),(5,.p (.int .i64 x.1))],[(25,.row 34 1 (E3 (kids.list.take x.1)))]⟩) (fun x=>x.1+x.2.2.len=kids.len∧v.drop x.2.1=x.2.2.enc∧x.2.1+x.2.2.enc.length=v.length∧kids.list.drop x.1=x.2.2.list) (fun x=>x.2.2.enc.length) (0,1,kids) (St.le_slots (by simp only [Cd,Ck,Ac,Be,Aq,Nat.reduceEqDiff,reduceIte,Nat.reduceLT,Nat.reduceLeDiff];simp (disch:=omega) [Aq,A8,Cm,Aa] <;> (repeat' apply And.intro) <;> omega) (by simp (disch:=omega) [Dc,Ee,C9,Bj,Aq,A8,Cm,Aa]) (by simp [De])) ⟨by simp,by rw [← hvv,Gx];rfl,by simp only;omega,rfl⟩ ?_
 rintro ⟨k,j,F⟩ ⟨h1,h2,h3,h4⟩
 simp only at h1 h2 h3 h4 ⊢
 match F,h1,h2,h3,h4 with
 | .nil,h1,h2,h3,h4 =>
  simp only [Forest.len] at h1
  have hkk:k=kids.len:=by omega
  subst hkk
  have hpl:(kids.len≤(E3 (kids.list.take kids.len)).length)=True:=eq_true (by rw [Fo,List.length_take];omega)
  have htk:(E3 (kids.list.take kids.len)).take kids.len=E3 kids.list:=by
   rw [List.take_of_length_le (by rw [Fo,List.length_take];omega),List.take_of_length_le (by omega)]
  have hgj:=hpl
  skip
  (refine Ax hm _ _ _ ?_;simp only [Cb,Ah,Bm,Br,Ce,Eh,Cn,Ab,Ci,B0,Bd,A1,Bc,Bf,A0,Ch,Ca,A9,Aj,B8,Ed,C8,Cv,Cg,Bl,Bq,Au,Ar,Dm,Eo,Cj,Ei,G8,C0,Gb,C5,Dd,Ag,Ae,A3,E6,Fu,En,F4,Cf,Bv,Bi,Bz,Bx,A4,B6,Bh,Az,A5,Bs,Cs,Cr,A6,A7,B9,Av,Ap,Al,B7,B5,Af,Am,Ao,Co,Ay,Aw,Dx,Dk,I9,Pg,G9,Cl,A2,Ad,Ac,C6,Bg,Bb,Dy,List.map_cons,List.map_nil,List.length_cons,List.length_nil,List.append_nil,List.flatMap_cons,List.flatMap_nil,List.drop_succ_cons,List.drop_zero,List.getElem?_cons_zero,decide_eq_true_eq,Nat.reduceLT,Nat.reduceLeDiff,Nat.reduceEqDiff,Nat.reduceAdd,Int.reduceToNat,Int.reduceLE,true_and,Cc,Bw,↓reduceIte,reduceCtorEq,Nat.zero_add,Bool.true_and,Bool.or_false,and_self,Ox,Mm,Kc,Lb,hg0,hpl,htk])
  (repeat' (first | (refine iteI (fun h=>?_) (fun h=>?_))|(refine B1 (by first | omega | (simp (disch:=omega) only [Aa,Ak,Ai] at *;omega)) ?_;intro b hb)|(refine And.intro (by first | omega | (simp (disch:=omega) only [Aa,Ak,Ai] at *;omega)) ?_)|((first | (refine Ba hm (by rfl) (by kernel_rfl) ?_));simp only [Dh])|(exact True.intro)|(exfalso;omega)))
  skip
 | .cons nm' t' r,h1,h2,h3,h4 =>
  rw [Rm] at h1
  rw [E9] at h2 h3
  rw [List.length_append] at h3
  have hkk:kids.list[k]? = some (nm',t'):=by
   have:=congrArg (·[0]?) h4
   simpa [Forest.list] using this
  have hpk:=Rs hkk
  have hpl:(E3 (kids.list.take k)).length=k:=by rw [Fo,List.length_take];omega
  have hw:=wj1 (i:=k) (by omega)
  have htk:=hw
  have hgj:=hw
  skip
  (refine Ax hm _ _ _ ?_;simp only [Cb,Ah,Bm,Br,Ce,Eh,Cn,Ab,Ci,B0,Bd,A1,Bc,Bf,A0,Ch,Ca,A9,Aj,B8,Ed,C8,Cv,Cg,Bl,Bq,Au,Ar,Dm,Eo,Cj,Ei,G8,C0,Gb,C5,Dd,Ag,Ae,A3,E6,Fu,En,F4,Cf,Bv,Bi,Bz,Bx,A4,B6,Bh,Az,A5,A7,B7,B5,Af,Am,Ao,Aw,Dx,Dk,I9,Pg,G9,Cl,A2,Ad,Ac,C6,Bg,Bb,Dy,List.map_cons,List.map_nil,List.length_cons,List.length_nil,List.append_nil,List.flatMap_cons,List.flatMap_nil,List.drop_succ_cons,List.drop_zero,List.getElem?_cons_zero,decide_eq_true_eq,Nat.reduceLT,Nat.reduceLeDiff,Nat.reduceEqDiff,Nat.reduceAdd,Int.reduceToNat,Int.reduceLE,true_and,Cc,Bw,↓reduceIte,reduceCtorEq,Nat.zero_add,Bool.true_and,Bool.or_false,Ox,Mm,Kc,Lb,hg0,hpl])
  (repeat' (first | (refine iteI (fun h=>?_) (fun h=>?_))|(refine B1 (by first | omega | (simp (disch:=omega) only [Aa,Ak,Ai] at *;omega)) ?_;intro b hb)|(refine And.intro (by first | omega | (simp (disch:=omega) only [Aa,Ak,Ai] at *;omega)) ?_)|((first | (refine Ba hm (by rfl) (by kernel_rfl) ?_)|(refine Det.use (Lw v j nm' t' r.enc (by omega) h2) ?_)|(refine Det.useQ (Lw v j nm' t' r.enc (by omega) h2) ?_)|(refine Det.use (Yb v j (j+(t'.enc nm').length) nm' t' r.enc (by omega) h2 rfl) ?_)|(refine Det.useQ (Yb v j (j+(t'.enc nm').length) nm' t' r.enc (by omega) h2 rfl) ?_));simp only [Ah,Bm,Ab,Bk,Bd,A1,Bc,Ct,Bf,A0,Ch,Ca,A9,Aj,B8,Df,F8,Cg,Bo,Au,Bt,Ar,E8,Cu,G6,Mj,Ag,Ae,A3,Cf,Bv,Bi,Bz,Bx,A4,Bp,B6,Bh,Az,A5,Ht,Ji,Il,Dg,Jg,Gp,Gr,Gs,Gu,Hu,Ho,Hc,F5,G5,E1,Gg,Kz,F2,Jk,Aw,B4,C4,Fy,Ez,G7,Jr,Ga,Cl,C7,El,Cz,F1,Ad,Ac,Bn,Bg,Bb,Dy,List.map_cons,List.map_nil,List.length_cons,List.length_nil,List.append_nil,List.flatMap_cons,List.flatMap_nil,List.take_succ_cons,List.take_nil,List.drop_zero,Nat.reduceLT,Nat.reduceLeDiff,Nat.reduceEqDiff,Nat.reduceMul,true_and,Cc,Bw,↓reduceIte,reduceCtorEq,Nat.zero_add,Bool.true_and,Bool.and_true,Bool.or_true,beq_self_eq_true,Ph,Ul,Lx,hpl,htk])|(exact True.intro)|(exfalso;omega)))
  refine ⟨by simp,by omega,by omega,(k+1,j+(t'.enc nm').length,r),⟨by simp only;omega,by simp only;rw [← List.drop_drop,h2,List.drop_left],by simp only;omega,by simp only;rw [← List.drop_drop,h4];rfl⟩,by have:=R7 t' nm';simp only [E9,List.length_append];omega,?_⟩
  simp only
  rw [hpk]
  exact (St.le_slots (by simp only [Cd,Ck,Ac,Be,Aq,Nat.reduceEqDiff,reduceIte,Nat.reduceLT,Nat.reduceLeDiff];simp (disch:=omega) [Aq,A8,Cm,Aa] <;> (repeat' apply And.intro) <;> omega) (by simp (disch:=omega) [Dc,Ee,C9,Bj,Aq,A8,Cm,Aa]) (by simp [De]))
theorem Jmm (nm:List UInt8) (kd:Int) (s:List UInt8) (g:Bool) (e:Int) (kids:Forest) (hv:kids.enc.length≤999999):Det cx 43 [.p (.sl (valL ((Tree.mk kd s g e kids).enc nm)))] [] (.own 900 0 kids.len) [(900,.row 34 1 (E3 kids.list))]:=by
 have hl:=Forest.len_le kids
 have hkl:=Forest.list_len kids
 generalize hvv:(Tree.mk kd s g e kids).enc nm=v
 have h0:v.drop 0=⟨kd,kids.len,nm,s,g,e⟩ :: kids.enc:=by rw [← hvv,Gx];rfl
 have hg0:=Pm h0
 rw [Nq] at hg0
 have hvl:v.length=kids.enc.length+1:=by rw [← hvv,Gx];rfl
 skip
 (refine B2.of_code (X:=cx) true [(25,900)] (by simp) Tryz.func43 (by kernel_rfl) rfl (by simp only [List.length_cons,List.length_nil,Tryz.ntmps43];decide) (by simp) ?_;refine Ax hm _ _ _ ?_;simp only [Tryz.ntmps43,Tryz.results43,Ah,Bm,Ce,He,Ab,Bd,A1,Bc,Ct,Bf,A0,Ca,E4,Aj,Df,Bo,Cu,Ag,Ht,Ji,Il,Dg,Jg,Gp,Hu,B4,Ez,Ad,Ac,Bn,Bg,Bb,argW,List.map_cons,List.map_nil,List.length_cons,List.length_nil,Nat.reduceLT,Nat.reduceLeDiff,Nat.reduceMul,true_and,Cc,↓reduceIte,Nat.zero_add,Bool.true_and,Ph,Lx])
 (repeat' (first | (refine iteI (fun h=>?_) (fun h=>?_))|(refine B1 (by first | omega | (simp (disch:=omega) only [Aa,Ak,Ai] at *;omega)) ?_;intro b hb)|(refine And.intro (by first | omega | (simp (disch:=omega) only [Aa,Ak,Ai] at *;omega)) ?_)|((first | (refine Ba hm (by rfl) (by kernel_rfl) ?_));simp only [Dh])|(exact True.intro)|(exfalso;omega)))
 refine SWP.of_le (Jh [(7,25)] _ (by simp)) ?_
 simp only [Bu,Fn,Di,B6,D2,Ey,Af,C3,Gj,Fl,D8,Dr,Du,Cq,Bg,Bb,↓reduceIte]
 refine SWP.loop (fun x:Nat×Nat×Forest=>⟨Fp 28 [(0,.p (.sl (valL v))),(3,.own 25 0 x.1),(4,.p (.int .i64 x.2.1)),(5,.p (.int .i64 x.1))],[(25,.row 34 1 (E3 (kids.list.take x.1)))]⟩) (fun x=>x.1+x.2.2.len=kids.len∧v.drop x.2.1=x.2.2.enc∧x.2.1+x.2.2.enc.length=v.length∧kids.list.drop x.1=x.2.2.list) (fun x=>x.2.2.enc.length) (0,1,kids) (St.le_slots (by simp only [Cd,Ck,Ac,Be,Aq,Nat.reduceEqDiff,reduceIte,Nat.reduceLT,Nat.reduceLeDiff];simp (disch:=omega) [Aq,A8,Cm,Aa] <;> (repeat' apply And.intro) <;> omega) (by simp (disch:=omega) [Dc,Ee,C9,Bj,Aq,A8,Cm,Aa]) (by simp [De])) ⟨by simp,by rw [← hvv,Gx];rfl,by simp only;omega,rfl⟩ ?_
 rintro ⟨k,j,F⟩ ⟨h1,h2,h3,h4⟩
 simp only at h1 h2 h3 h4 ⊢
 match F,h1,h2,h3,h4 with
 | .nil,h1,h2,h3,h4 =>
  simp only [Forest.len] at h1
  have hkk:k=kids.len:=by omega
  subst hkk
  have hpl:(kids.len≤(E3 (kids.list.take kids.len)).length)=True:=eq_true (by rw [Fo,List.length_take];omega)
  have htk:(E3 (kids.list.take kids.len)).take kids.len=E3 kids.list:=by
   rw [List.take_of_length_le (by rw [Fo,List.length_take];omega),List.take_of_length_le (by omega)]
  have hgj:=hpl
  skip
  (refine Ax hm _ _ _ ?_;simp only [Cb,Ah,Bm,Br,Ce,Eh,Cn,Ab,Ci,B0,Bd,A1,Bc,Bf,A0,Ch,Ca,A9,Aj,B8,Ed,C8,Cv,Cg,Bl,Bq,Au,Ar,Dm,Eo,Cj,Ei,G8,C0,Gb,C5,Dd,Ag,Ae,A3,Cf,Bv,Bi,Bz,Bx,A4,Bu,Fn,Di,B6,D2,Jl,Ey,Bh,Az,A5,Km,Av,Ap,Em,Ls,H5,Af,C3,Gj,Fl,D8,Dr,Du,Aw,Cl,A2,Ad,Ac,Cq,Bg,Bb,Dy,List.map_cons,List.map_nil,List.length_cons,List.length_nil,List.append_nil,List.flatMap_cons,List.flatMap_nil,List.drop_succ_cons,List.drop_zero,List.getElem?_cons_zero,decide_eq_true_eq,Nat.reduceLT,Nat.reduceLeDiff,Nat.reduceEqDiff,Nat.reduceAdd,Int.reduceToNat,Int.reduceLE,true_and,and_true,Cc,Bw,↓reduceIte,reduceCtorEq,Nat.zero_add,List.cons.injEq,Bool.true_and,Bool.and_true,Bool.or_false,Ox,Mm,Kc,Lb,hg0])
  (repeat' (first | (refine iteI (fun h=>?_) (fun h=>?_))|(refine B1 (by first | omega | (simp (disch:=omega) only [Aa,Ak,Ai] at *;omega)) ?_;intro b hb)|(refine And.intro (by first | omega | (simp (disch:=omega) only [Aa,Ak,Ai] at *;omega)) ?_)|((first | (refine Ba hm (by rfl) (by kernel_rfl) ?_));simp only [Dh])|(exact True.intro)|(exfalso;omega)))
  rw [List.take_of_length_le (Nat.le_of_eq hkl)]
 | .cons nm' t' r,h1,h2,h3,h4 =>
  rw [Rm] at h1
  rw [E9] at h2 h3
  rw [List.length_append] at h3
  have hkk:kids.list[k]? = some (nm',t'):=by
   have:=congrArg (·[0]?) h4
   simpa [Forest.list] using this
  have hpk:=Rs hkk
  have hpl:(E3 (kids.list.take k)).length=k:=by rw [Fo,List.length_take];omega
  have hw:=wj1 (i:=k) (by omega)
  have htk:=hw
  have hgj:=hw
  skip
  (refine Ax hm _ _ _ ?_;simp only [Cb,Ah,Bm,Br,Ce,Eh,Cn,Ab,Ci,B0,Bd,A1,Bc,Bf,A0,Ch,Ca,A9,Aj,B8,Ed,C8,Cv,Cg,Bl,Bq,Au,Ar,Dm,Eo,Cj,Ei,G8,C0,Gb,C5,Dd,Ag,Ae,A3,Cf,Bv,Bi,Bz,Bx,A4,Bu,Fn,Di,B6,D2,Jl,Ey,Bh,Az,A5,Km,Av,Ap,Em,Ls,H5,Af,C3,Gj,Fl,D8,Dr,Du,Aw,Cl,A2,Ad,Ac,Cq,Bg,Bb,Dy,List.map_cons,List.map_nil,List.length_cons,List.length_nil,List.append_nil,List.flatMap_cons,List.flatMap_nil,List.drop_succ_cons,List.drop_zero,List.getElem?_cons_zero,decide_eq_true_eq,Nat.reduceLT,Nat.reduceLeDiff,Nat.reduceEqDiff,Nat.reduceAdd,Int.reduceToNat,Int.reduceLE,true_and,and_true,Cc,Bw,↓reduceIte,reduceCtorEq,Nat.zero_add,List.cons.injEq,Bool.true_and,Bool.and_true,Bool.or_false,Ox,Mm,Kc,Lb,hg0])
  (repeat' (first | (refine iteI (fun h=>?_) (fun h=>?_))|(refine B1 (by first | omega | (simp (disch:=omega) only [Aa,Ak,Ai] at *;omega)) ?_;intro b hb)|(refine And.intro (by first | omega | (simp (disch:=omega) only [Aa,Ak,Ai] at *;omega)) ?_)|((first | (refine Ba hm (by rfl) (by kernel_rfl) ?_)|(refine Det.use (Lw v j nm' t' r.enc (by omega) h2) ?_)|(refine Det.useQ (Lw v j nm' t' r.enc (by omega) h2) ?_)|(refine Det.use (Yb v j (j+(t'.enc nm').length) nm' t' r.enc (by omega) h2 rfl) ?_)|(refine Det.useQ (Yb v j (j+(t'.enc nm').length) nm' t' r.enc (by omega) h2 rfl) ?_));simp only [Ah,Bm,Ab,Bk,Bd,A1,Bc,Ct,Bf,A0,Ch,Ca,A9,Aj,B8,Df,F8,Cg,Bo,Au,Bt,Ar,E8,Cu,G6,Mj,Ag,Ae,A3,Cf,Bv,Bi,Bz,Bx,A4,Bp,B6,Bh,Az,A5,Ht,Ji,Il,Dg,Jg,Gp,Gr,Gs,Gu,Hu,Ho,Hc,F5,G5,E1,Gg,Kz,F2,Jk,Aw,B4,C4,Fy,Ez,G7,Jr,Ga,Cl,C7,El,Cz,F1,Ad,Ac,Bn,Bg,Bb,Dy,List.map_cons,List.map_nil,List.length_cons,List.length_nil,List.append_nil,List.flatMap_cons,List.flatMap_nil,List.take_succ_cons,List.take_nil,List.drop_zero,Nat.reduceLT,Nat.reduceLeDiff,Nat.reduceEqDiff,Nat.reduceMul,true_and,Cc,Bw,↓reduceIte,reduceCtorEq,Nat.zero_add,Bool.true_and,Bool.and_true,Bool.or_true,beq_self_eq_true,Ph,Ul,Lx,hpl,htk])|(exact True.intro)|(exfalso;omega)))
  refine ⟨by simp,by omega,by omega,(k+1,j+(t'.enc nm').length,r),⟨by simp only;omega,by simp only;rw [← List.drop_drop,h2,List.drop_left],by simp only;omega,by simp only;rw [← List.drop_drop,h4];rfl⟩,by have:=R7 t' nm';simp only [E9,List.length_append];omega,?_⟩
  simp only
  rw [hpk]
  exact (St.le_slots (by simp only [Cd,Ck,Ac,Be,Aq,Nat.reduceEqDiff,reduceIte,Nat.reduceLT,Nat.reduceLeDiff];simp (disch:=omega) [Aq,A8,Cm,Aa] <;> (repeat' apply And.intro) <;> omega) (by simp (disch:=omega) [Dc,Ee,C9,Bj,Aq,A8,Cm,Aa]) (by simp [De]))
end Go.LX
