/- Values, the document's answer: without a part, with one. -/
import Derived.Test.YtmejkfclabmijaaGreatDoorPathBackLxZA
import Derived.Test.YtmejkfclabmijaaGreatDoorPathBackLxZ
import Derived.Test.YtmejkfclabmijaaGreatDoorPathBackLxP
import Derived.Test.YtmejkfclabmijaaGreatDoorPathBackLxX
set_option linter.unusedSimpArgs false
set_option linter.unusedVariables false
set_option linter.unusedSectionVars false
set_option linter.unnecessarySimpa false
set_option maxRecDepth 100000
set_option maxHeartbeats 2000000
namespace Go.LX
open Go Go.RowKit Go.Proofs
attribute [local irreducible] Bz SWP Gm
theorem Jhr (nm:List UInt8) (s:List UInt8) (g:Bool) (e:Int) (kids:Forest) (name:List UInt8) (hv:kids.enc.length≤900000):Det cx 104 [.p (.sl (valL ((Tree.mk 6 s g e kids).enc nm))),.p (.str name)] [] (.p (.sl (valL ((Tree.mk 6 [] false 0 (Dz (E0 name kids.list))).enc [])))) []:=by
 have hll:=Forest.len_le kids
 have hkl:=Forest.list_len kids
 skip
 (refine Bz.of_code (X:=cx) false [] (by simp) Tryz.func104 (by kernel_rfl) rfl (by simp only [List.length_cons,List.length_nil,Tryz.ntmps104];decide) (by simp) ?_;refine Ax hm _ _ _ ?_;simp only [Tryz.ntmps104,Tryz.results104,Ah,Bn,Ab,Bd,A0,Bb,Be,Az,Ce,E1,Ba,Ai,Cc,Ag,Ae,A3,Cd,Bv,Bm,Bx,Bw,A5,B3,Bi,Ay,A4,Cj,Ad,Ac,argW,List.map_cons,List.map_nil,List.append_nil,List.flatMap_cons,List.flatMap_nil,Nat.reduceLT,Nat.reduceEqDiff,Ca,Bu,↓reduceIte,reduceCtorEq,Nat.zero_add])
 (repeat' (first | (refine iteI (fun h=>?_) (fun h=>?_))|(refine B2 (by first | omega | (simp (disch:=omega) only [Aa,Ak,Aj] at *;omega)) ?_;intro b hb)|(refine And.intro (by first | omega | (simp (disch:=omega) only [Aa,Ak,Aj] at *;omega)) ?_)|((first | (refine A9 hm (by rfl) (by kernel_rfl) ?_)|(refine Det.use (Jen nm s g e kids (by omega)) ?_)|(refine Det.useQ (Jen nm s g e kids (by omega)) ?_)|(refine Det.use (Jdl nm 6 s g e kids (by omega)) ?_)|(refine Det.useQ (Jdl nm 6 s g e kids (by omega)) ?_));simp only [Ah,Bn,Ci,H9,Ab,Bd,A0,Bb,Cs,Be,Az,Ce,Cb,Ba,Ai,Di,Cc,Bp,Cr,Ag,Ae,A3,Cd,Bv,Bm,Bx,Bw,A5,Bq,B3,Bi,Ay,A4,Ib,Jm,Ii,Dh,Jl,Gz,H7,B1,Cw,Fv,E6,F5,Cj,Ad,Ac,Bl,Bf,A6,List.map_cons,List.map_nil,List.length_cons,List.length_nil,List.append_nil,List.flatMap_cons,List.flatMap_nil,Nat.reduceLT,Nat.reduceLeDiff,Nat.reduceEqDiff,Nat.reduceMul,true_and,Ca,Bu,↓reduceIte,reduceCtorEq,Nat.zero_add,Bool.true_and,Wn,O1,Ld,K2])|(exact True.intro)|(exfalso;omega)))
 refine SWP.of_le (Ix [(14,34),(15,41)] _ (by simp)) ?_
 simp only [Bk,E8,C1,B3,Dl,Ek,Af,Ct,F3,Fa,Dx,C9,C8,Cg,Bf,A6,Nat.reduceEqDiff,↓reduceIte]
 refine SWP.loop (fun k:Nat=>⟨Fo 45 [(0,.p (.sl (valL ((Tree.mk 6 s g e kids).enc nm)))),(1,.p (.str name)),(5,.p (.sl (Fq kids.list))),(6,.p (.sl (El kids.list))),(7,.own 34 0 (E0 name (kids.list.take k)).length),(8,.own 41 0 (E0 name (kids.list.take k)).length),(9,.p (.int .i64 k))],[(41,.row 34 1 (El (E0 name (kids.list.take k)))),(34,.row 9 1 (Fq (E0 name (kids.list.take k))))]⟩) (fun k=>k≤kids.list.length) (fun k=>kids.list.length - k) 0 (by simp only [List.take_zero,E0,Jqk,Jpm,List.length_nil];exact (St.le_slots (by simp only [Ck,Cm,Ac,Bj,Au,Nat.reduceEqDiff,reduceIte,Nat.reduceLT,Nat.reduceLeDiff];simp (disch:=omega) [Au,Bc,Cq,Aa] <;> (repeat' apply And.intro) <;> omega) (by simp (disch:=omega) [Dj,Eo,Dg,Bh,Au,Bc,Cq,Aa]) (by simp [Dk]))) (Nat.zero_le _) ?_
 intro k hk
 have hkk:=Jbu name (kids.list.take k)
 rw [List.length_take] at hkk
 by_cases hlt:¬ k<kids.list.length
 ·have c1:((k:Int)<(kids.list.length:Int))=False:=eq_false (by omega)
  have tk:kids.list.take k=kids.list:=List.take_of_length_le (by omega)
  rw [tk]
  have tn:(Fq (E0 name kids.list)).take (E0 name kids.list).length=Fq (E0 name kids.list):=List.take_of_length_le (by rw [Fp];omega)
  have tp:(El (E0 name kids.list)).take (E0 name kids.list).length=El (E0 name kids.list):=List.take_of_length_le (by rw [E5];omega)
  have ln:((E0 name kids.list).length≤(Fq (E0 name kids.list)).length)=True:=eq_true (by rw [Fp];omega)
  have lp:((E0 name kids.list).length≤(El (E0 name kids.list)).length)=True:=eq_true (by rw [E5];omega)
  have ll:((E0 name kids.list).length≤(E0 name kids.list).length)=True:=eq_true (Nat.le_refl _)
  have hkle:=Ns name kids
  have hgn:=c1
  have hgp:=c1
  have hne:=c1
  have w1:=c1
  have e1:=c1
  have e2:=c1
  have e3:=c1
  skip
  (refine Ax hm _ _ _ ?_;simp only [Ah,Bn,Bs,Fd,Ab,Co,B4,Bd,A0,Bb,Be,Ce,Ba,B8,Eg,Cc,Br,Av,Aq,D1,D9,D0,Ag,Ae,F8,Gq,Fk,Gs,Cd,Bv,Bm,Bx,Bw,A5,B3,Bi,Ay,A4,Ar,D8,Dv,Nj,Jg,Hy,Cj,Ad,Ac,Dc,Bf,A6,Ea,List.map_cons,List.map_nil,List.append_nil,List.flatMap_cons,List.flatMap_nil,List.drop_zero,decide_eq_true_eq,Nat.reduceLT,Nat.reduceEqDiff,Ca,Bu,↓reduceIte,reduceCtorEq,Nat.zero_add,Bool.or_false,Mi,Fp,c1,tn,tp,lp,ll])
  (repeat' (first | (refine iteI (fun h=>?_) (fun h=>?_))|(refine B2 (by first | omega | (simp (disch:=omega) only [Aa,Ak,Aj] at *;omega)) ?_;intro b hb)|(refine And.intro (by first | omega | (simp (disch:=omega) only [Aa,Ak,Aj] at *;omega)) ?_)|((first | (refine A9 hm (by rfl) (by kernel_rfl) ?_)|(refine Det.use (S8 (E0 name kids.list) (by omega)) ?_)|(refine Det.useQ (S8 (E0 name kids.list) (by omega)) ?_));simp only [Cn,Ab,Bd,A0,Bb,Cs,Be,Ai,Ag,Ae,A3,Bq,B3,Bt,Cy,Cz,A7,A8,B9,Aw,Ao,Al,B5,B6,Af,Am,Ap,Cl,A1,A2,Ad,Ac,Nat.reduceLT,↓reduceIte,and_self])|(exact True.intro)|(exfalso;omega)))
 ·have hlt:=Decidable.not_not.1 hlt
  have c1:((k:Int)<(kids.list.length:Int))=True:=eq_true (by omega)
  obtain ⟨p,hp⟩:∃ p,kids.list[k]? = some p:=⟨_,List.getElem?_eq_getElem hlt⟩
  have hgn:(Fq kids.list)[k]? = some [.str p.1]:=by simp [Fq,hp]
  have hgp:(El kids.list)[k]? = some [.sl (valL (p.2.enc []))]:=by simp [El,hp]
  have w1:=wi1 (i:=k) (by omega)
  have tn:=c1
  have tp:=c1
  have lp:=c1
  by_cases hn:p.1=name
  ·have hne:(p.1=name)=True:=eq_true hn
   have ln:=c1
   have ll:=c1
   have e1:=c1
   have e2:=c1
   have e3:=c1
   (refine Ax hm _ _ _ ?_;simp only [Ch,Ah,Bn,Bs,Ci,Ab,Bo,Bd,A0,Bb,Be,Az,Cb,Ba,Ai,B8,D5,Cp,Eg,Bg,Br,Av,F4,B0,Aq,Hb,D1,Qz,D9,D0,Eh,B7,D7,He,C5,C4,Ad,Ac,Ea,List.map_cons,List.map_nil,List.length_cons,List.length_nil,List.getElem?_cons_zero,decide_eq_true_eq,beq_eq_false_iff_ne,Bool.not_eq_eq_eq_not,ne_eq,not_true_eq_false,Nat.reduceLT,Nat.reduceEqDiff,true_and,Ca,↓reduceIte,reduceCtorEq,Int.toNat_natCast,Int.natCast_nonneg,Nat.zero_add,Bool.not_true,Bool.true_and,Bool.or_false,Bool.or_true,L9,Kw,Mi,K2,Fp,c1,hgn,hne,w1])
   (repeat' (first | (refine And.intro (by first | omega | (simp;done)|(simp;omega)) ?_)))
   refine ⟨k+1,hlt,by omega,?_⟩
   rw [Wi hp hn]
   exact (St.le_slots (by simp only [Ck,Cm,Ac,Bj,Au,Nat.reduceEqDiff,reduceIte,Nat.reduceLT,Nat.reduceLeDiff];simp (disch:=omega) [Au,Bc,Cq,Aa] <;> (repeat' apply And.intro) <;> omega) (by simp (disch:=omega) [Dj,Eo,Dg,Bh,Au,Bc,Cq,Aa]) (by simp [Dk]))
  ·have hne:(p.1=name)=False:=eq_false hn
   have e1:(Fq (E0 name (kids.list.take k))).length=(E0 name (kids.list.take k)).length:=Fp _
   have e2:(El (E0 name (kids.list.take k))).length=(E0 name (kids.list.take k)).length:=E5 _
   have e3:=c1
   have ln:=c1
   have ll:=c1
   have t1:El (E0 name (kids.list.take (k+1)))=El (E0 name (kids.list.take k)) ++ [[.sl (valL (p.2.enc []))]]:=by rw [Lq hp hn,Jf2];rfl
   have t2:Fq (E0 name (kids.list.take (k+1)))=Fq (E0 name (kids.list.take k)) ++ [[.str p.1]]:=by rw [Lq hp hn,Jfa];rfl
   have t3:(E0 name (kids.list.take (k+1))).length=(E0 name (kids.list.take k)).length+1:=by rw [Lq hp hn,List.length_append];rfl
   (refine Ax hm _ _ _ ?_;simp only [Ch,Ah,Bn,Bs,Ci,Ab,Bo,Bd,A0,Bb,Cs,Be,Az,Cb,Ba,Ai,B8,D5,Cp,Eg,Di,Fy,Bp,Bg,Br,Av,F4,B0,Aq,Hb,D1,Qz,D9,D0,Eh,B7,D7,He,C5,C4,Cr,G1,Kx,Lz,Ag,Ae,A3,Ib,Jm,Ii,Dh,Jl,Gz,G8,Ha,G6,H7,H1,G0,F1,G3,E7,Gb,Km,F6,Jb,Ar,B1,Cw,Fv,E6,G2,I5,F5,Ds,Fl,Db,Hf,Ad,Ac,Bl,Bf,A6,Ea,List.map_cons,List.map_nil,List.length_cons,List.length_nil,List.take_succ_cons,List.take_nil,List.drop_zero,List.getElem?_cons_zero,decide_eq_true_eq,beq_eq_false_iff_ne,Bool.not_eq_eq_eq_not,ne_eq,not_false_eq_true,Nat.reduceLT,Nat.reduceLeDiff,Nat.reduceEqDiff,Nat.reduceMul,true_and,Ca,↓reduceIte,reduceCtorEq,Int.toNat_natCast,Int.natCast_nonneg,Nat.zero_add,Bool.not_true,Bool.true_and,Bool.and_true,Bool.or_false,Bool.or_true,beq_self_eq_true,L9,Kw,Wn,Jey,Qa,Mx,O1,Ty,Ld,Mi,K2,Fp,c1,hgn,hgp,hne,w1,e1,e2])
   (repeat' (first | (refine And.intro (by first | omega | (simp;done)|(simp;omega)) ?_)))
   refine ⟨k+1,hlt,by omega,?_⟩
   rw [t1,t2,t3]
   exact (St.le_slots (by simp only [Ck,Cm,Ac,Bj,Au,Nat.reduceEqDiff,reduceIte,Nat.reduceLT,Nat.reduceLeDiff];simp (disch:=omega) [Au,Bc,Cq,Aa] <;> (repeat' apply And.intro) <;> omega) (by simp (disch:=omega) [Dj,Eo,Dg,Bh,Au,Bc,Cq,Aa]) (by simp [Dk]))
theorem Jo6 (nm:List UInt8) (s:List UInt8) (g:Bool) (e:Int) (kids:Forest) (name:List UInt8) (t:Tree) (hv:kids.enc.length≤400000) (ht:(t.enc []).length≤400000) (hr:Rise (E0 name kids.list)) (hs:∀ p∈kids.list,p.1.length≤1000000) (hvs:∀ p∈kids.list,valid p.1=true) (hn:name.length≤1000000) (hvn:valid name=true):Det cx 45 [.p (.sl (valL ((Tree.mk 6 s g e kids).enc nm))),.p (.str name),.p (.sl (valL (t.enc [])))] [] (.p (.sl (valL ((Tree.mk 6 [] false 0 (Dz (putL name t (E0 name kids.list)))).enc [])))) []:=by
 have hw:=Jhr nm s g e kids name (by omega)
 have hkl:=Ns name kids
 have hfl:=Forest.len_le (Dz (E0 name kids.list))
 rw [Jv] at hfl
 have hKm:∀ p∈E0 name kids.list,p∈kids.list∧p.1≠name:=fun p hp=>Zh.1 hp
 generalize hK:E0 name kids.list=K at *
 have hp:=Jm4 [] 6 [] false 0 (Dz K) (by omega)
 have hnm:=Jm3 [] [] false 0 (Dz K) (by omega)
 rw [Rm,Jv] at hp hnm
 have e1:Fq K ++ [[PV.str name]]=Fq (K ++ [(name,t)]):=by simp [Fq]
 have e2:El K ++ [[PV.sl (valL (t.enc []))]]=El (K ++ [(name,t)]):=by simp [El]
 have hio:Wq (K ++ [(name,t)])=putL name t K:=Jle hr fun p hp=>(hKm p hp).2
 have hok:Xk (K ++ [(name,t)])=true:=by
  unfold Xk
  rw [decide_eq_true_eq]
  refine ⟨fun p hp=>?_,?_⟩
  ·rcases List.mem_append.1 hp with hp | hp
   ·exact hvs p (hKm p hp).1
   ·rw [List.mem_singleton] at hp;subst hp;exact hvn
  ·have:=(Oe (K ++ [(name,t)])).map (·.1)
   rw [hio] at this
   exact this.nodup_iff.1 (Vr hr fun p hp=>(hKm p hp).2).nodup
 have hO:=Jkl (K ++ [(name,t)]) (by
  have:=Sb (Oe (K ++ [(name,t)]))
  rw [hio,Th] at this
  omega) (fun p hp=>by
  rcases List.mem_append.1 hp with hp | hp
  ·exact hs p (hKm p hp).1
  ·rw [List.mem_singleton] at hp;subst hp;exact hn)
 unfold objR at hO
 rw [if_pos hok,hio] at hO
 have l1:(K.length+1≤(Fq (K ++ [(name,t)])).length)=True:=eq_true (by rw [Fp];simp)
 have l2:(K.length+1≤(El (K ++ [(name,t)])).length)=True:=eq_true (by rw [E5];simp)
 have t1:(Fq (K ++ [(name,t)])).take (K.length+1)=Fq (K ++ [(name,t)]):=List.take_of_length_le (by rw [Fp];simp)
 have t2:(El (K ++ [(name,t)])).take (K.length+1)=El (K ++ [(name,t)]):=List.take_of_length_le (by rw [E5];simp)
 have n1:(Fq K).length=K.length:=Fp _
 have n2:(El K).length=K.length:=E5 _
 skip
 (refine Bz.of_code (X:=cx) false [] (by simp) Tryz.func45 (by kernel_rfl) rfl (by simp only [List.length_cons,List.length_nil,Tryz.ntmps45];decide) (by simp) ?_;refine Ax hm _ _ _ ?_;simp only [Tryz.ntmps45,Tryz.results45,Ah,Bn,Ab,Bd,A0,Bb,Be,Az,Ce,E1,Ba,Ai,Cc,Ag,Ae,A3,Cd,Bv,Bm,Bx,Bw,A5,B3,Bi,Ay,A4,Cj,Ad,Ac,argW,List.map_cons,List.map_nil,List.append_nil,List.flatMap_cons,List.flatMap_nil,Nat.reduceLT,Nat.reduceEqDiff,Nat.reduceAdd,Ca,Bu,↓reduceIte,reduceCtorEq,Nat.zero_add])
 (repeat' (first | (refine iteI (fun h=>?_) (fun h=>?_))|(refine B2 (by first | omega | (simp (disch:=omega) only [Aa,Ak,Aj] at *;omega)) ?_;intro b hb)|(refine And.intro (by first | omega | (simp (disch:=omega) only [Aa,Ak,Aj] at *;omega)) ?_)|((first | (refine A9 hm (by rfl) (by kernel_rfl) ?_)|(refine Det.use (hw) ?_)|(refine Det.useQ (hw) ?_)|(refine Ec.use (hw) ?_)|(refine C7.use (hw) ?_)|(refine Det.use (hp) ?_)|(refine Det.useQ (hp) ?_)|(refine Ec.use (hp) ?_)|(refine C7.use (hp) ?_)|(refine Det.use (hnm) ?_)|(refine Det.useQ (hnm) ?_)|(refine Ec.use (hnm) ?_)|(refine C7.use (hnm) ?_)|(refine Det.use (hO) ?_)|(refine Det.useQ (hO) ?_)|(refine Ec.use (hO) ?_)|(refine C7.use (hO) ?_));simp only [Ah,Bn,Ab,Bd,A0,Bb,Cs,Be,Ce,Ba,Ai,Di,Fy,Cc,Bp,Cr,G1,Kx,Ag,Ae,A3,Cd,Bv,Bm,Bx,Bw,A5,Bq,H4,Hv,Dn,Gc,Df,Gu,Hm,K8,E4,Gv,Jd,Bk,Gx,C1,B3,Dl,Ek,Bi,Ay,A4,Ib,Jm,Ii,Dh,Jl,Gz,G8,Ha,G6,H7,H1,G0,F1,G3,E7,Gb,Km,F6,Jb,Ar,B1,Cw,Fv,E6,G2,F5,Cj,Ds,Fl,Db,Hf,Ad,Ac,Bl,Cg,Bf,A6,List.map_cons,List.map_nil,List.length_cons,List.length_nil,List.append_nil,List.flatMap_cons,List.flatMap_nil,List.take_succ_cons,List.take_nil,List.drop_zero,Nat.reduceLT,Nat.reduceLeDiff,Nat.reduceEqDiff,Nat.reduceMul,true_and,Ca,Bu,↓reduceIte,reduceCtorEq,Nat.zero_add,Bool.true_and,Bool.and_true,beq_self_eq_true,Wn,Jey,K2,e1,n1])|(exact True.intro)|(exfalso;omega)))
 (repeat' (first | (refine And.intro (by first | omega | (simp;done)|(simp;omega)) ?_)))
 (repeat' (first | (refine iteI (fun h=>?_) (fun h=>?_))|(refine B2 (by first | omega | (simp (disch:=omega) only [Aa,Ak,Aj] at *;omega)) ?_;intro b hb)|(refine And.intro (by first | omega | (simp (disch:=omega) only [Aa,Ak,Aj] at *;omega)) ?_)|((first | (refine A9 hm (by rfl) (by kernel_rfl) ?_)|(refine Det.use (hw) ?_)|(refine Det.useQ (hw) ?_)|(refine Ec.use (hw) ?_)|(refine C7.use (hw) ?_)|(refine Det.use (hp) ?_)|(refine Det.useQ (hp) ?_)|(refine Ec.use (hp) ?_)|(refine C7.use (hp) ?_)|(refine Det.use (hnm) ?_)|(refine Det.useQ (hnm) ?_)|(refine Ec.use (hnm) ?_)|(refine C7.use (hnm) ?_)|(refine Det.use (hO) ?_)|(refine Det.useQ (hO) ?_)|(refine Ec.use (hO) ?_)|(refine C7.use (hO) ?_));simp only [Ah,Bn,Ab,Bd,A0,Bb,Cs,Be,Ce,Ba,Ai,Di,Fy,Cc,Bp,Cr,G1,Lz,Ag,Ae,A3,F8,Gq,Fk,Gs,Cd,Bv,Bm,Bx,Bw,A5,H4,Hv,Dn,G4,Gc,Df,Gu,Hm,K8,E4,E2,Hr,G9,Gv,Jd,Bk,I4,Gx,Fh,Fx,C1,B3,Dl,Hq,Ek,Bi,Ay,A4,Ib,Jm,Ii,Dh,Jl,Gz,G8,Ha,G6,H7,H1,G0,F1,G3,E7,Gb,Km,F6,Jb,Ar,B1,Cw,D8,Dv,Fv,Nj,E6,G2,F5,Jg,S0,Hy,Cj,Ds,Fl,Db,Hf,Ad,Ac,Bl,Dc,Cg,Bf,A6,List.map_cons,List.map_nil,List.length_cons,List.length_nil,List.cons_append,List.nil_append,List.append_nil,List.flatMap_cons,List.flatMap_nil,List.take_succ_cons,List.take_nil,List.drop_zero,decide_eq_true_eq,ne_eq,not_false_eq_true,Nat.reduceLT,Nat.reduceLeDiff,Nat.reduceEqDiff,Nat.reduceMul,true_and,Ca,Bu,↓reduceIte,reduceCtorEq,Nat.zero_add,Bool.true_and,Bool.and_true,beq_self_eq_true,O1,Ty,Ld,l1,l2,t1,t2,e2,n2])|(exact True.intro)|(exfalso;omega)))
 (repeat' (first | (refine And.intro (by first | omega | (simp;done)|(simp;omega)) ?_)))
 (repeat' (first | (refine iteI (fun h=>?_) (fun h=>?_))|(refine B2 (by first | omega | (simp (disch:=omega) only [Aa,Ak,Aj] at *;omega)) ?_;intro b hb)|(refine And.intro (by first | omega | (simp (disch:=omega) only [Aa,Ak,Aj] at *;omega)) ?_)|((first | (refine A9 hm (by rfl) (by kernel_rfl) ?_)|(refine Det.use (hw) ?_)|(refine Det.useQ (hw) ?_)|(refine Ec.use (hw) ?_)|(refine C7.use (hw) ?_)|(refine Det.use (hp) ?_)|(refine Det.useQ (hp) ?_)|(refine Ec.use (hp) ?_)|(refine C7.use (hp) ?_)|(refine Det.use (hnm) ?_)|(refine Det.useQ (hnm) ?_)|(refine Ec.use (hnm) ?_)|(refine C7.use (hnm) ?_)|(refine Det.use (hO) ?_)|(refine Det.useQ (hO) ?_)|(refine Ec.use (hO) ?_)|(refine C7.use (hO) ?_));simp only [Ah,Bn,Cn,Ab,Bd,A0,Bb,Cs,Be,Ba,Ai,Es,Bg,He,En,Ag,Ae,A3,Bq,Fc,Bt,Cy,Cz,A7,A8,B9,Aw,Ao,Al,B5,B6,Af,Am,Ap,Cl,A1,Ar,A2,Ad,Ac,List.map_cons,List.map_nil,List.getElem?_cons_zero,List.getElem?_cons_succ,Nat.reduceLT,Nat.reduceEqDiff,↓reduceIte,and_self])|(exact True.intro)|(exfalso;omega)))
end Go.LX
namespace Go.LX
open Go
def isFigB (c:UInt8):Bool:=decide (48≤c.toNat) && decide (c.toNat≤57)
def figsB (s:List UInt8):Bool:=s.all isFigB
def numRt (s:List UInt8) (g:Bool) (e:Int):Prop :=
 figsB s=true∧s.length≤100∧-1000≤e∧e≤1000∧(s.length:Int)+e≤1000∧(if s=[] then g=false∧e=0 else at_ s 0≠48∧at_ s (s.length - 1)≠48)
instance (s:List UInt8) (g:Bool) (e:Int):Decidable (numRt s g e):=by unfold numRt;infer_instance
def Zz (k:Int) (s:List UInt8) (g:Bool) (e:Int) (m:Int):Prop :=
 if k=0∨k=1∨k=2 then m=0∧s=[]∧g=false∧e=0 else if k=3 then m=0∧numRt s g e else if k=4 then valid s=true∧m=0∧g=false∧e=0 else if k=5∨k=6 then 0≤m∧s=[]∧g=false∧e=0 else False
instance (k:Int) (s:List UInt8) (g:Bool) (e m:Int):Decidable (Zz k s g e m):=by unfold Zz;infer_instance
def Zy (k:Int) (l:List KT):Prop:=(k=5→∀ p∈l,p.1=[])∧(∀ p∈l,valid p.1=true)∧(k=6→Rise l)
mutual
def okT:Tree→Prop
 | .mk k s g e kids=>Zz k s g e kids.len∧Zy k kids.list∧okF kids
def okF:Forest→Prop
 | .nil=>True
 | .cons _ t r=>okT t∧okF r
end
theorem Jb1 {k:Int} {s:List UInt8} {g:Bool} {e:Int} {kids:Forest}:okT (.mk k s g e kids) ↔ Zz k s g e kids.len∧Zy k kids.list∧okF kids:=by rw [okT]
theorem W9 {nm:List UInt8} {t:Tree} {r:Forest}:okF (.cons nm t r) ↔ okT t∧okF r:=by rw [okF]
theorem Ja9:okF .nil:=by rw [okF];trivial
theorem Jm6:∀ {f:Forest},okF f ↔ ∀ p∈f.list,okT p.2
 | .nil=>by simp [Forest.list,Ja9]
 | .cons nm t r=>by rw [W9,Jm6 (f:=r),Forest.list,List.forall_mem_cons]
theorem Jl0 (k:Int):Zy k []:=⟨by simp,by simp,fun _=>.nil⟩
end Go.LX
set_option maxRecDepth 100000
set_option maxHeartbeats 2000000
namespace Go.LX
open Go Go.RowKit Go.Proofs
attribute [local irreducible] Bz SWP Gm
def nd (k:Int) (l:List KT):Tree:=.mk k [] false 0 (Dz l)
theorem Qj (l:List KT):(Dz l).list=l:=Rm l
theorem Jn3 {k:Int} {l:List KT}:okT (nd k l) ↔ Zz k [] false 0 l.length∧Zy k l∧∀ p∈l,okT p.2:=by
 unfold nd
 rw [Jb1,Jm6,Qj,Jv]
def J7 (name:List UInt8) (t:Tree) (l:List KT):List KT:=l.map fun p=>if p.1=name then (name,t) else p
theorem Jp6 (name:List UInt8) (t:Tree) (l:List KT):(J7 name t l).map (·.1)=l.map (·.1):=by
 unfold J7
 rw [List.map_map]
 apply List.map_congr_left
 intro p _
 simp only [Function.comp]
 split <;> simp_all
theorem rise_fst {l m:List KT} (h:l.map (·.1)=m.map (·.1)):Rise l ↔ Rise m:=by
 have e:∀ l:List KT,Rise l ↔ (l.map (·.1)).Pairwise fun a b=>Op.bytesLess a b=true:=fun l=>by unfold Rise;rw [List.pairwise_map]
 rw [e,e,h]
theorem S1 {name:List UInt8} {t:Tree} {l:List KT} (h:Rise l):Rise (J7 name t l):=(rise_fst (Jp6 name t l)).2 h
theorem Xt {name:List UInt8} {t:Tree}:∀ {l:List KT},(∀ p∈l,p.1≠name)→J7 name t l=l
 | [],_=>rfl
 | p :: l,h=>by
  have:=Xt (t:=t) fun q hq=>h q (List.mem_cons_of_mem p hq)
  unfold J7 at this ⊢
  rw [List.map_cons,if_neg (h p List.mem_cons_self),this]
theorem Jjt {name:List UInt8}:∀ {l:List KT},(∀ p∈l,p.1≠name)→E0 name l=l
 | [],_=>rfl
 | p :: l,h=>by rw [E0,if_neg (h p List.mem_cons_self),Jjt fun q hq=>h q (List.mem_cons_of_mem p hq)]
theorem Jj9 {name:List UInt8} {y:Tree}:∀ {l:List KT},Rise l→(∃ p∈l,p.1=name)→putL name y (E0 name l)=J7 name y l
 | [],_,h=>by obtain ⟨p,hp,_⟩:=h;cases hp
 | p :: l,hr,h=>by
  obtain ⟨h1,h2⟩:=List.pairwise_cons.1 hr
  by_cases hp:p.1=name
  ·have hno:∀ q∈l,q.1≠name:=fun q hq e=>by
    have:=h1 q hq;rw [hp,e,Oh] at this;cases this
   rw [E0,if_pos hp,Jjt hno]
   unfold J7
   rw [List.map_cons,if_pos hp]
   have:=Xt (t:=y) hno
   unfold J7 at this
   rw [this]
   cases l with
   | nil=>rfl
   | cons q l =>
    have:=h1 q List.mem_cons_self
    rw [hp] at this
    rw [putL,if_neg (by rw [Yf this];simp)]
  ·obtain ⟨q,hq,hqn⟩:=h
   have hq':q∈l:=by
    rcases List.mem_cons.1 hq with rfl | hq
    ·exact absurd hqn hp
    ·exact hq
   have hlt:=h1 q hq'
   rw [hqn] at hlt
   rw [E0,if_neg hp,putL,if_pos hlt,Jj9 h2 ⟨q,hq',hqn⟩]
   unfold J7
   rw [List.map_cons,if_neg hp]
theorem W5 {name:List UInt8} {y:Tree}:∀ {l:List KT},(∃ p∈l,p.1=name)→Kh name (J7 name y l)=some y
 | [],h=>by obtain ⟨p,hp,_⟩:=h;cases hp
 | p :: l,h=>by
  unfold J7
  rw [List.map_cons]
  by_cases hp:p.1=name
  ·rw [if_pos hp,Kh,if_pos rfl]
  ·rw [if_neg hp,Kh,if_neg hp]
   obtain ⟨q,hq,hqn⟩:=h
   refine W5 ⟨q,?_,hqn⟩
   rcases List.mem_cons.1 hq with rfl | hq
   ·exact absurd hqn hp
   ·exact hq
theorem Ug {name n':List UInt8} {y:Tree} (hn:n'≠name):∀ {l:List KT},Kh n' (J7 name y l)=Kh n' l
 | []=>rfl
 | p :: l=>by
  have ih:=Ug hn (y:=y) (l:=l)
  unfold J7 at ih ⊢
  rw [List.map_cons]
  by_cases hp:p.1=name
  ·rw [if_pos hp,Kh,if_neg (by simp only;exact fun e=>hn e.symm),Kh,if_neg (by rw [hp];exact fun e=>hn e.symm),ih]
  ·rw [if_neg hp,Kh,Kh,ih]
theorem Jjz (name:List UInt8) (y z:Tree) (l:List KT):J7 name z (J7 name y l)=J7 name z l:=by
 unfold J7
 rw [List.map_map]
 apply List.map_congr_left
 intro p _
 simp only [Function.comp]
 by_cases h:p.1=name <;> simp [h]
theorem Jmb {a b:List UInt8} (h:a≠b) (y z:Tree) (l:List KT):J7 a y (J7 b z l)=J7 b z (J7 a y l):=by
 unfold J7
 rw [List.map_map,List.map_map]
 apply List.map_congr_left
 intro p _
 simp only [Function.comp]
 by_cases h1:p.1=a
 ·have h2:¬ p.1=b:=fun e=>h (h1.symm.trans e)
  simp [h1,h,h2]
 ·by_cases h2:p.1=b
  ·simp [h2,Ne.symm h]
  ·simp [h1,h2]
theorem Jd5 {name:List UInt8} {w:Tree}:∀ {l:List KT},Rise l→Kh name l=some w→J7 name w l=l
 | [],_,h=>by cases h
 | p :: l,hr,h=>by
  obtain ⟨h1,h2⟩:=List.pairwise_cons.1 hr
  rw [Kh] at h
  by_cases hp:p.1=name
  ·rw [if_pos hp] at h
   have hno:∀ q∈l,q.1≠name:=fun q hq e=>by
    have:=h1 q hq;rw [hp,e,Oh] at this;cases this
   have e:=Xt (t:=w) hno
   unfold J7 at e ⊢
   rw [List.map_cons,if_pos hp,e]
   cases h
   obtain ⟨a,b⟩:=p
   simp only at hp;subst hp;rfl
  ·rw [if_neg hp] at h
   have e:=Jd5 h2 h
   unfold J7 at e ⊢
   rw [List.map_cons,if_neg hp,e]
theorem replK_ok {name:List UInt8} {y:Tree} {l:List KT} (h:∀ p∈l,okT p.2) (hy:okT y):∀ p∈J7 name y l,okT p.2:=by
 intro p hp
 obtain ⟨q,hq,rfl⟩:=List.mem_map.1 hp
 split
 ·exact hy
 ·exact h q hq
theorem Jlb {name:List UInt8} {y:Tree} {l:List KT} (h:Zy 6 l):Zy 6 (J7 name y l):=by
 obtain ⟨_,h2,h3⟩:=h
 refine ⟨by simp,fun p hp=>?_,fun _=>S1 (h3 rfl)⟩
 obtain ⟨q,hq,rfl⟩:=List.mem_map.1 hp
 split
 ·rename_i e;simp only;rw [← e];exact h2 q hq
 ·exact h2 q hq
theorem Jox {name:List UInt8} {y w:Tree}:∀ {l:List KT},Rise l→Kh name l=some w→(Dz (J7 name y l)).enc.length+(w.enc []).length=(Dz l).enc.length+(y.enc []).length
 | [],_,h=>by cases h
 | p :: l,hr,h=>by
  obtain ⟨h1,h2⟩:=List.pairwise_cons.1 hr
  rw [Kh] at h
  by_cases hp:p.1=name
  ·rw [if_pos hp] at h
   cases h
   have hno:∀ q∈l,q.1≠name:=fun q hq e=>by
    have:=h1 q hq;rw [hp,e,Oh] at this;cases this
   have e:=Xt (t:=y) hno
   have e2:J7 name y (p :: l)=(name,y) :: l:=by
    unfold J7 at e ⊢
    rw [List.map_cons,if_pos hp,e]
   rw [e2]
   simp only [Dz,Er,List.length_append,Rp _ name,Rp _ p.1];omega
  ·rw [if_neg hp] at h
   have ih:=Jox (y:=y) h2 h
   have e2:J7 name y (p :: l)=p :: J7 name y l:=by
    unfold J7
    rw [List.map_cons,if_neg hp]
   rw [e2]
   simp only [Dz,Er,List.length_append];omega
theorem Jol {y w:Tree} {nm:List UInt8}:∀ {l:List KT} {i:Nat},l[i]? = some (nm,w)→(Dz (l.set i (nm,y))).enc.length+(w.enc []).length=(Dz l).enc.length+(y.enc []).length
 | [],i,h=>by simp at h
 | p :: l,0,h=>by
  simp at h;subst h
  simp only [List.set_cons_zero,Dz,Er,List.length_append,Rp _ nm];omega
 | p :: l,i+1,h=>by
  have:=Jol (y:=y) (l:=l) (i:=i) (by simpa using h)
  simp only [List.set_cons_succ,Dz,Er,List.length_append];omega
def putT:Tree→Step→Tree→Tree
 | .mk _ _ _ _ kids,x,y=>if x.part=true then nd 5 (unn (kids.list.set x.n.toNat ([],y))) else nd 6 (putL x.name y (E0 x.name kids.list))
inductive Way (t:Tree) (x:Step) (w:Tree):Prop
 | list (l:List KT) (h:t=nd 5 l) (hp:x.part=true) (hn:∀ p∈l,p.1=[]) (hi:l[x.n.toNat]? = some ([],w))
 | obj (l:List KT) (h:t=nd 6 l) (hp:x.part=false) (hr:Rise l) (hi:Kh x.name l=some w)
theorem unn_id:∀ {l:List KT},(∀ p∈l,p.1=[])→unn l=l
 | [],_=>rfl
 | p :: l,h=>by
  have:=unn_id fun q hq=>h q (List.mem_cons_of_mem p hq)
  unfold unn at this ⊢
  rw [List.map_cons,this,← h p List.mem_cons_self]
theorem way_of {t:Tree} {x:Step} {w:Tree} (ht:okT t) (h:inT t x=.ok w):Way t x w:=by
 cases t with
 | mk k s g e kids =>
 rw [Jb1] at ht
 obtain ⟨h1,h2,h3⟩:=ht
 unfold Zz at h1
 cases hp:x.part
 ·by_cases hk:k=6
  ·subst hk
   simp at h1
   obtain ⟨rfl,rfl,rfl⟩:=h1
   rw [Jkf hp] at h
   cases hf:Kh x.name kids.list with
   | none=>rw [hf] at h;cases h
   | some u =>
    rw [hf] at h;cases h
    exact .obj kids.list (by unfold nd;rw [Tl]) hp (h2.2.2 rfl) hf
  ·rw [Ja5 hp hk] at h;cases h
 ·by_cases hk:k=5
  ·subst hk
   simp at h1
   obtain ⟨rfl,rfl,rfl⟩:=h1
   rw [Jih hp] at h
   cases hf:kids.list[x.n.toNat]? with
   | none=>rw [hf] at h;cases h
   | some q =>
    rw [hf] at h;cases h
    have hq:=h2.1 rfl q (List.mem_of_getElem? hf)
    refine .list kids.list (by unfold nd;rw [Tl]) hp (h2.1 rfl) ?_
    rw [hf];obtain ⟨a,b⟩:=q;simp only at hq;subst hq;rfl
  ·rw [Jbi hp hk] at h;cases h
theorem inT_nd5 {l:List KT} {x:Step} (hp:x.part=true):inT (nd 5 l) x=match l[x.n.toNat]? with
   | some p=>.ok p.2
   | none=>.error 6:=by unfold nd;rw [Jih hp,Qj];rfl
theorem inT_nd6 {l:List KT} {x:Step} (hp:x.part=false):inT (nd 6 l) x=match Kh x.name l with
   | some t=>.ok t
   | none=>.error 6:=by unfold nd;rw [Jkf hp,Qj];rfl
theorem Qs {l:List KT} {i:Nat} {y:Tree} (h:∀ p∈l,p.1=[]):∀ p∈l.set i ([],y),p.1=[]:=by
 intro p hp
 rcases List.mem_or_eq_of_mem_set hp with hp | rfl
 ·exact h p hp
 ·rfl
theorem Lp {l:List KT} {x:Step} {y:Tree} (hp:x.part=true) (hn:∀ p∈l,p.1=[]):putT (nd 5 l) x y=nd 5 (l.set x.n.toNat ([],y)):=by
 show (if x.part=true then nd 5 (unn ((Dz l).list.set x.n.toNat ([],y))) else _)=_
 rw [if_pos hp,Qj,unn_id (Qs hn)]
theorem Mk {l:List KT} {x:Step} {y w:Tree} (hp:x.part=false) (hr:Rise l) (hi:Kh x.name l=some w):putT (nd 6 l) x y=nd 6 (J7 x.name y l):=by
 show (if x.part=true then _ else nd 6 (putL x.name y (E0 x.name (Dz l).list)))=_
 rw [if_neg (by simp [hp]),Qj,Jj9 hr]
 obtain ⟨p,h1,_,h2⟩:=Sf hi
 exact ⟨p,h1,h2⟩
theorem Jjy {name:List UInt8} {l:List KT} {w:Tree} (h:Kh name l=some w):∃ p∈l,p.1=name:=by
 obtain ⟨p,h1,_,h2⟩:=Sf h
 exact ⟨p,h1,h2⟩
theorem Jnd {t:Tree} {x:Step} {w y:Tree} (h:Way t x w):inT (putT t x y) x=.ok y:=by
 cases h with
 | list l h hp hn hi =>
  subst h
  rw [Lp hp hn,inT_nd5 hp,List.getElem?_set_self (List.getElem?_eq_some_iff.1 hi).1]
 | obj l h hp hr hi =>
  subst h
  rw [Mk hp hr hi,inT_nd6 hp,W5 (Jjy hi)]
theorem put_self {t:Tree} {x:Step} {w:Tree} (h:Way t x w):putT t x w=t:=by
 cases h with
 | list l h hp hn hi =>
  subst h
  rw [Lp hp hn]
  congr 1
  apply List.ext_getElem?
  intro i
  rw [List.getElem?_set]
  split
  ·subst_vars
   first
    | (split <;> simp_all)
    | simp_all
  ·rfl
 | obj l h hp hr hi =>
  subst h
  rw [Mk hp hr hi,Jd5 hr hi]
theorem Jp0 {t:Tree} {x:Step} {w y z:Tree} (h:Way t x w):putT (putT t x y) x z=putT t x z:=by
 cases h with
 | list l h hp hn hi =>
  subst h
  rw [Lp hp hn,Lp hp (Qs hn),Lp hp hn,List.set_set]
 | obj l h hp hr hi =>
  subst h
  rw [Mk hp hr hi,Mk hp (S1 hr) (W5 (Jjy hi)),Mk hp hr hi,Jjz]
theorem put_comm {t:Tree} {x x':Step} {w w' y y':Tree} (h:Way t x w) (h':Way t x' w') (hx:Fs x) (hx':Fs x') (hne:x≠x'):putT (putT t x y) x' y'=putT (putT t x' y') x y:=by
 unfold Fs at hx hx'
 cases h with
 | list l h hp hn hi =>
  subst h
  cases h' with
  | list l' h' hp' hn' hi' =>
   rw [if_pos hp] at hx
   rw [if_pos hp'] at hx'
   have hnn:x.n.toNat≠x'.n.toNat:=fun e=>hne (by
    cases x;cases x';simp_all;omega)
   rw [Lp hp hn,Lp hp' (Qs hn),Lp hp' hn,Lp hp (Qs hn),List.set_comm _ _ hnn]
  | obj l' h' hp' hr' hi'=>unfold nd at h';cases h'
 | obj l h hp hr hi =>
  subst h
  cases h' with
  | list l' h' hp' hn' hi'=>unfold nd at h';cases h'
  | obj l' h' hp' hr' hi' =>
   have e:l=l':=by
    unfold nd at h'
    injection h' with _ _ _ _ h5
    have:=congrArg Forest.list h5
    rw [Qj,Qj] at this;exact this
   subst e
   rw [if_neg (by simp [hp])] at hx
   rw [if_neg (by simp [hp'])] at hx'
   have hnn:x'.name≠x.name:=fun e=>hne (by
    cases x;cases x';simp_all)
   rw [Mk hp hr hi,Mk hp' (S1 hr) (by rw [Ug hnn];exact hi'),Mk hp' hr hi',Mk hp (S1 hr) (by rw [Ug (Ne.symm hnn)];exact hi),Jmb hnn]
theorem put_ok {t:Tree} {x:Step} {w y:Tree} (ht:okT t) (h:Way t x w) (hy:okT y):okT (putT t x y):=by
 cases h with
 | list l h hp hn hi =>
  subst h
  rw [Lp hp hn]
  rw [Jn3] at ht ⊢
  obtain ⟨h1,h2,h3⟩:=ht
  refine ⟨by rw [List.length_set];exact h1,⟨fun _=>Qs hn,fun p hp'=>?_,by simp⟩,fun p hp'=>?_⟩
  ·rw [Qs hn p hp'];rfl
  ·rcases List.mem_or_eq_of_mem_set hp' with hp' | rfl
   ·exact h3 p hp'
   ·exact hy
 | obj l h hp hr hi =>
  subst h
  rw [Mk hp hr hi]
  rw [Jn3] at ht ⊢
  obtain ⟨h1,h2,h3⟩:=ht
  exact ⟨by unfold J7;rw [List.length_map];exact h1,Jlb h2,replK_ok h3 hy⟩
theorem Jl1 {t:Tree} {x:Step} {w:Tree} (ht:okT t) (h:Way t x w):okT w:=by
 cases h with
 | list l h hp hn hi=>subst h;exact (Jn3.1 ht).2.2 _ (List.mem_of_getElem? hi)
 | obj l h hp hr hi =>
  subst h
  obtain ⟨p,h1,h2,_⟩:=Sf hi
  rw [← h2];exact (Jn3.1 ht).2.2 p h1
theorem Jhs (k:Int) (l:List KT):((nd k l).enc []).length=(Dz l).enc.length+1:=by unfold nd;rw [Ga];rfl
theorem put_len {t:Tree} {x:Step} {w y:Tree} (h:Way t x w):((putT t x y).enc []).length+(w.enc []).length=(t.enc []).length+(y.enc []).length:=by
 cases h with
 | list l h hp hn hi =>
  subst h
  rw [Lp hp hn,Jhs,Jhs]
  have:=Jol (y:=y) hi
  omega
 | obj l h hp hr hi =>
  subst h
  rw [Mk hp hr hi,Jhs,Jhs]
  have:=Jox (y:=y) hr hi
  omega
def setT:List Step→Tree→Tree→Except Nat Tree
 | [],_,u=>.ok u
 | x :: p,t,u=>match inT t x with
  | .error e=>.error e
  | .ok w=>match setT p w u with
   | .error e=>.error e
   | .ok y=>.ok (putT t x y)
theorem Joe:∀ {p:List Step} {t u:Tree} {e:Nat},setT p t u=.error e ↔ getT p t=.error e
 | [],t,u,e=>by simp [setT,getT]
 | x :: p,t,u,e=>by
  rw [setT,getT]
  cases inT t x with
  | error e'=>simp
  | ok w =>
   simp only
   rw [← Joe (p:=p) (t:=w) (u:=u)]
   cases setT p w u with
   | error e'=>simp
   | ok y=>simp
theorem set_ok:∀ {p:List Step} {t u y:Tree},okT t→okT u→setT p t u=.ok y→∃ w,getT p t=.ok w∧getT p y=.ok u∧setT p y w=.ok t∧okT y∧okT w∧(y.enc []).length+(w.enc []).length=(t.enc []).length+(u.enc []).length
 | [],t,u,y,ht,hu,h=>by
  cases h
  exact ⟨t,rfl,rfl,rfl,hu,ht,by omega⟩
 | x :: p,t,u,y,ht,hu,h=>by
  rw [setT] at h
  cases hi:inT t x with
  | error e=>rw [hi] at h;cases h
  | ok v =>
   rw [hi] at h
   have hw:=way_of ht hi
   have hv:=Jl1 ht hw
   simp only at h
   cases hs:setT p v u with
   | error e=>rw [hs] at h;cases h
   | ok z =>
    rw [hs] at h
    simp only at h
    cases h
    obtain ⟨w,g1,g2,g3,g4,g5,g6⟩:=set_ok hv hu hs
    refine ⟨w,by rw [getT,hi];exact g1,by rw [getT,Jnd hw];exact g2,?_,put_ok ht hw g4,g5,?_⟩
    ·rw [setT,Jnd hw]
     simp only
     rw [g3]
     simp only
     rw [Jp0 hw,put_self hw]
    ·have:=put_len (y:=z) hw
     omega
theorem Jln:∀ (p q:List Step),Mf p q=Mf q p
 | [],q=>by cases q <;> rfl
 | x :: p,[]=>rfl
 | x :: p,y :: q=>by
  rw [Mf,Mf,Jln p q]
  have:decide (Re x y)=decide (Re y x):=by rw [decide_eq_decide,Mw,Mw];exact eq_comm
  rw [this]
theorem Jf8:∀ (p q:List Step),Y4 p q=Mf p q
 | [],q=>by unfold Y4;cases q <;> simp [Mf]
 | x :: p,[]=>by unfold Y4;simp [Mf]
 | x :: p,y :: q=>by
  have ih:=Jf8 p q
  unfold Y4 at ih ⊢
  rw [Mf,← ih]
  simp only [List.length_cons,Nat.succ_min_succ,List.take_succ_cons,List.cons.injEq]
  rw [Bool.eq_iff_iff]
  simp only [Bool.not_eq_true',decide_eq_false_iff_not,Bool.or_eq_true,← Mw]
  by_cases h:Re x y <;> simp [h]
end Go.LX
