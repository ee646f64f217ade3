/- What the document says of strings, as they are written: escapes, Unquote. -/
import Derived.Test.YtmejkfclabmijaaGreatDoorPathTextsLxQ
set_option linter.unusedSimpArgs false
set_option linter.unusedVariables false
set_option linter.unusedSectionVars false
set_option linter.unnecessarySimpa false
set_option maxRecDepth 100000
set_option maxHeartbeats 2000000
namespace Go.LX
open Go Go.RowKit Go.Proofs
attribute [local irreducible] B2 SWP Hb
theorem fl0:at_ [34,92,47,98,102,110,114,116] 0=34:=rfl
theorem fl1:at_ [34,92,47,98,102,110,114,116] 1=92:=rfl
theorem fl2:at_ [34,92,47,98,102,110,114,116] 2=47:=rfl
theorem fl3:at_ [34,92,47,98,102,110,114,116] 3=98:=rfl
theorem fl4:at_ [34,92,47,98,102,110,114,116] 4=102:=rfl
theorem fl5:at_ [34,92,47,98,102,110,114,116] 5=110:=rfl
theorem fl6:at_ [34,92,47,98,102,110,114,116] 6=114:=rfl
theorem fl7:at_ [34,92,47,98,102,110,114,116] 7=116:=rfl
theorem wk1:IntKind.i64.wrap 1=1:=by decide
theorem wk2:IntKind.i64.wrap 2=2:=by decide
theorem wk3:IntKind.i64.wrap 3=3:=by decide
theorem wk4:IntKind.i64.wrap 4=4:=by decide
theorem wk5:IntKind.i64.wrap 5=5:=by decide
theorem wk6:IntKind.i64.wrap 6=6:=by decide
theorem wk7:IntKind.i64.wrap 7=7:=by decide
theorem wk8:IntKind.i64.wrap 8=8:=by decide
theorem Jnm {s:List UInt8} {i:Nat} (h:s.length≤i+1):escR (s.drop i)=(0,0):=by
 unfold escR
 rw [if_pos (by rw [List.length_drop];omega)]
theorem O9 {s:List UInt8} {i r:Nat} (h:i+1<s.length) (hr:Lr (at_ s (i+1))=some r):escR (s.drop i)=((r:Int),2):=by
 unfold escR
 rw [if_neg (by rw [List.length_drop];omega),Pf,hr]
theorem Jqu {s:List UInt8} {i:Nat} (h:i+1<s.length) (hr:Lr (at_ s (i+1))=none):escR (s.drop i) =
  if u4 (s.drop i)<0∨(56320≤u4 (s.drop i)∧u4 (s.drop i)<57344) then (0,0) else if u4 (s.drop i)<55296∨57344≤u4 (s.drop i) then (u4 (s.drop i),6)
   else if u4 (s.drop (i+6))<56320∨57344≤u4 (s.drop (i+6)) then (0,0) else (65536+(u4 (s.drop i) - 55296) * 1024+(u4 (s.drop (i+6)) - 56320),12):=by
 unfold escR
 rw [if_neg (by rw [List.length_drop];omega),Pf,hr]
 simp only [List.drop_drop]
theorem Zy {s:List UInt8} (h:escR s=(0,0)):escS s=([],0):=by
 unfold escS;rw [h];rfl
theorem Lv {s:List UInt8} {r:Int} {n:Nat} (h:escR s=(r,n)) (hn:n≠0):escS s=(utf r,n):=by
 unfold escS;rw [h];simp [hn]
theorem Jbs (s:List UInt8) (i:Nat) (hs:s.length≤1000000) (hi:i<s.length):Det cx 259 [.p (.str s),.p (.int .i64 i)] [] (.tup [.str (escS (s.drop i)).1,.int .i64 (escS (s.drop i)).2]) []:=by
 have hB:=Nd s (i+1)
 obtain ⟨hu1,hu2⟩:=Jgq (s.drop i)
 obtain ⟨hv1,hv2⟩:=Jgq (s.drop (i+6))
 have z1:=Aa (n:=u4 (s.drop i) - 55296) (by omega) (by omega)
 have z2:=Aa (n:=1024 * (u4 (s.drop i) - 55296)) (by omega) (by omega)
 have z3:=Aa (n:=65536+1024 * (u4 (s.drop i) - 55296)) (by omega) (by omega)
 have z4:=Aa (n:=65536+1024 * (u4 (s.drop i) - 55296)+u4 (s.drop (i+6))) (by omega) (by omega)
 have z5:=Aa (n:=65536+1024 * (u4 (s.drop i) - 55296)+u4 (s.drop (i+6)) - 56320) (by omega) (by omega)
 skip
 (refine B2.of_code (X:=cx) false [] (by simp) Tryz.func259 (by kernel_rfl) rfl (by simp only [List.length_cons,List.length_nil,Tryz.ntmps259];decide) (by simp) ?_;refine Ax hm _ _ _ ?_;simp only [Tryz.ntmps259,Tryz.results259,Cb,Ah,Bm,Br,Ce,He,Cn,Ab,B3,Bd,A1,Bc,Bf,A0,Ca,F6,A9,Aj,B8,Dw,Bq,Au,Bt,Ar,E8,Lc,Ds,Dl,Ag,Ae,A3,Bs,Cs,Cr,A6,A7,B9,Av,Ap,Al,B7,B5,Af,Am,Ao,Cy,Ay,A2,Ad,Ac,argW,List.map_cons,List.map_nil,decide_eq_true_eq,Nat.reduceLT,Nat.reduceEqDiff,true_and,and_true,Cc,↓reduceIte,reduceCtorEq,Nat.zero_add,PV.int.injEq,PV.str.injEq,L.tup.injEq,List.cons.injEq,Bool.true_and,Bool.and_true,Bool.or_false,Bool.or_true,Hi,wi1 (i:=i) (by omega),wi6 (i:=i) (by omega)])
 (repeat' (first | (refine iteI (fun h=>?_) (fun h=>?_))|(refine B1 (by first | omega | (simp (disch:=omega) only [Aa,Ak,Ai] at *;omega)) ?_;intro b hb)|(refine And.intro (by first | omega | (simp (disch:=omega) only [Aa,Ak,Ai] at *;omega)) ?_)|((first | (refine Ba hm (by rfl) (by kernel_rfl) ?_));simp only [Dh])|(exact True.intro)|(exfalso;omega)))
 ·rw [Zy (Jnm (by omega))];exact ⟨rfl,rfl⟩
 (refine SWP.rounds 9 ?_;refine SWP.roundI hm ?_;simp only [Cb,Ah,Bm,Br,Ce,Eh,Ab,Ci,B0,Bd,A1,Bc,Bf,Ch,A9,B8,Dw,Cg,Ja,Bq,Au,Ar,Dm,Ds,Dl,Ag,Ae,A3,Cf,Bv,Bi,Bz,Bx,A4,B6,Bh,Az,A5,Cl,Jeh,Ad,Ac,List.map_cons,List.map_nil,List.length_cons,List.length_nil,List.append_nil,List.flatMap_cons,List.flatMap_nil,decide_eq_true_eq,Nat.reduceLT,Nat.reduceEqDiff,Nat.reduceAdd,Cc,Bw,↓reduceIte,reduceCtorEq,Nat.zero_add,Bool.or_false,Hi,wi1 (i:=i) (by omega),wi6 (i:=i) (by omega)])
 (repeat' (first | (refine iteI (fun h=>?_) (fun h=>?_))|(refine B1 (by first | omega | (simp (disch:=omega) only [Aa,Ak,Ai] at *;omega)) ?_;intro b hb)|(refine And.intro (by first | omega | (simp (disch:=omega) only [Aa,Ak,Ai] at *;omega)) ?_)|((first | (refine Ba hm (by rfl) (by kernel_rfl) ?_)|(refine Det.use (Jtd s _ hs (by omega)) ?_)|(refine Det.useQ (Jtd s _ hs (by omega)) ?_)|(refine Det.use (d_utf _ (by unfold Kq;omega)) ?_)|(refine Det.useQ (d_utf _ (by unfold Kq;omega)) ?_));simp only [Cb,Ah,Bm,Br,Cn,Ab,B3,Bk,Ea,Bd,A1,Da,Mv,Kf,Bc,D9,Ct,Bf,A0,Ch,Cw,Ca,F6,A9,Aj,B8,D0,E7,Cg,Jn,M7,Xw,Bq,C2,Dq,Db,D1,J2,Dn,Au,Bt,Ar,E8,M5,Jhb,G0,Dm,Lc,Ib,Hf,D5,E2,La,Gf,Ag,Ae,A3,Cf,Bv,Bi,Bz,Bx,A4,Bp,B6,Bh,Az,A5,Bs,Cs,Cr,A6,A7,B9,Av,Ap,Al,B7,B5,Af,Am,Ao,Cy,Ay,Cl,A2,Jf1,Jkx,Ad,Ac,List.map_cons,List.map_nil,List.getD_cons_zero,List.getD_cons_succ,List.length_cons,List.length_nil,List.append_nil,List.flatMap_cons,List.flatMap_nil,List.take_succ_cons,List.take_zero,List.take_nil,List.drop_succ_cons,List.drop_zero,List.drop_nil,decide_eq_true_eq,beq_iff_eq,Nat.reduceLT,Nat.reduceEqDiff,Nat.reduceAdd,Nat.reduceSub,Int.reduceToNat,Int.reduceLE,Int.reduceAdd,true_and,and_true,Cc,Bw,↓reduceIte,reduceCtorEq,Int.toNat_natCast,Int.natCast_nonneg,Nat.zero_add,PV.int.injEq,PV.str.injEq,L.tup.injEq,List.cons.injEq,Bool.false_eq_true,Bool.true_and,Bool.and_true,Bool.or_false,Bool.or_true,Hi,wi1 (i:=i) (by omega),wi6 (i:=i) (by omega),fl0,fl1,fl2,fl3,fl4,fl5,fl6,fl7,wk1,wk2,wk3,wk4,wk5,wk6,wk7,wk8,z1,z2,z3,z4,z5])|(refine SWP.roundI hm ?_;simp only [Cb,Ah,Bm,Br,Ce,Eh,Ab,Ci,B0,Bd,A1,Bc,Bf,Ch,A9,B8,Dw,Cg,Ja,Bq,Au,Ar,Dm,Ds,Dl,Ag,Ae,A3,Cf,Bv,Bi,Bz,Bx,A4,B6,Bh,Az,A5,Cl,Jeh,Ad,Ac,List.map_cons,List.map_nil,List.length_cons,List.length_nil,List.append_nil,List.flatMap_cons,List.flatMap_nil,decide_eq_true_eq,Nat.reduceLT,Nat.reduceEqDiff,Nat.reduceAdd,Cc,Bw,↓reduceIte,reduceCtorEq,Nat.zero_add,Bool.or_false,Hi,wi1 (i:=i) (by omega),wi6 (i:=i) (by omega)])|(exact True.intro)|(exfalso;omega)))
 ·rw [Lv (O9 (r:=34) (by omega) (by unfold Lr;(repeat (first | rw [if_pos (by omega)] | rw [if_neg (by omega)])))) (by decide)];exact ⟨rfl,rfl⟩
 ·rw [Lv (O9 (r:=92) (by omega) (by unfold Lr;(repeat (first | rw [if_pos (by omega)] | rw [if_neg (by omega)])))) (by decide)];exact ⟨rfl,rfl⟩
 ·rw [Lv (O9 (r:=47) (by omega) (by unfold Lr;(repeat (first | rw [if_pos (by omega)] | rw [if_neg (by omega)])))) (by decide)];exact ⟨rfl,rfl⟩
 ·rw [Lv (O9 (r:=8) (by omega) (by unfold Lr;(repeat (first | rw [if_pos (by omega)] | rw [if_neg (by omega)])))) (by decide)];exact ⟨rfl,rfl⟩
 ·rw [Lv (O9 (r:=12) (by omega) (by unfold Lr;(repeat (first | rw [if_pos (by omega)] | rw [if_neg (by omega)])))) (by decide)];exact ⟨rfl,rfl⟩
 ·rw [Lv (O9 (r:=10) (by omega) (by unfold Lr;(repeat (first | rw [if_pos (by omega)] | rw [if_neg (by omega)])))) (by decide)];exact ⟨rfl,rfl⟩
 ·rw [Lv (O9 (r:=13) (by omega) (by unfold Lr;(repeat (first | rw [if_pos (by omega)] | rw [if_neg (by omega)])))) (by decide)];exact ⟨rfl,rfl⟩
 ·rw [Lv (O9 (r:=9) (by omega) (by unfold Lr;(repeat (first | rw [if_pos (by omega)] | rw [if_neg (by omega)])))) (by decide)];exact ⟨rfl,rfl⟩
 all_goals have hsr:Lr (at_ s (i+1))=none:=by unfold Lr;(repeat (first | rw [if_pos (by omega)] | rw [if_neg (by omega)]))
 all_goals have hn:=Jqu (s:=s) (i:=i) (by omega) hsr
 all_goals first
  | (rw [if_pos (by omega)] at hn;rw [Zy hn];exact ⟨rfl,rfl⟩)
  | (rw [if_neg (by omega),if_pos (by omega)] at hn;rw [Lv hn (by decide)];exact ⟨rfl,rfl⟩)
  | (rw [if_neg (by omega),if_neg (by omega),if_pos (by omega)] at hn;rw [Zy hn];exact ⟨rfl,rfl⟩)
  | (rw [if_neg (by omega),if_neg (by omega),if_neg (by omega)] at hn;rw [Lv hn (by decide)];refine ⟨?_,rfl⟩;simp only;congr 1;omega)
end Go.LX
set_option maxRecDepth 100000
set_option maxHeartbeats 2000000
namespace Go.LX
open Go Go.RowKit Go.Proofs
attribute [local irreducible] B2 SWP Hb
def tk (s:List UInt8) (i:Nat):List UInt8×Nat:=if at_ s i=92 then escS (s.drop i) else ((s.drop i).take (rlen s i),rlen s i)
def uqF (s:List UInt8):Nat→Nat→List UInt8→List UInt8×Nat×Nat
 | 0,_,_=>([],s.length,1)
 | f+1,i,out=>if i<s.length then (if at_ s i=34 then (out,i+1,0) else if (tk s i).2=0∨at_ s i<32 then ([],i,1) else uqF s f (i+(tk s i).2) (out ++ (tk s i).1)) else ([],s.length,1)
def uq (s:List UInt8):List UInt8×Nat×Nat:=if s.length=0∨at_ s 0≠34 then ([],0,1) else uqF s (s.length+1) 1 []
theorem Jop (s:List UInt8):(escR s).2≤12∧(s.length<(escR s).2→(escR s).2=0):=by
 have key:∀ s:List UInt8,0≤u4 s→6≤s.length:=fun s h=>by
  unfold u4 at h
  split at h
  ·rename_i h6;exact h6.1
  ·omega
 unfold escR
 split
 ·exact ⟨by decide,fun _=>rfl⟩
 ·split
  ·exact ⟨by simp only;omega,fun h=>by simp only at h;omega⟩
  ·split
   ·exact ⟨by decide,fun _=>rfl⟩
   ·split
    ·exact ⟨by simp only;omega,fun h=>by have:=key s (by omega);simp only at h;omega⟩
    ·split
     ·exact ⟨by decide,fun _=>rfl⟩
     ·exact ⟨by simp only;omega,fun h=>by
       have h1:=key (s.drop 6) (by omega)
       rw [List.length_drop] at h1
       simp only at h;omega⟩
theorem escS_le (s:List UInt8):(escS s).1.length≤4∧(escS s).2≤12∧(escS s).2≤s.length:=by
 have h:=Jop s
 unfold escS
 split
 ·exact ⟨by decide,by decide,Nat.zero_le _⟩
 ·exact ⟨Zj _,h.1,by rename_i hn;simp only;omega⟩
theorem tk_le (s:List UInt8) (i:Nat) (h:i<s.length):(tk s i).1.length≤4∧(tk s i).2≤12∧i+(tk s i).2≤s.length:=by
 unfold tk
 split
 ·have h1:=escS_le (s.drop i)
  rw [List.length_drop] at h1
  exact ⟨h1.1,h1.2.1,by omega⟩
 ·have h1:=Wg s i h
  have h2:=Yi s i
  exact ⟨by simp;omega,by simp only;omega,h1⟩
theorem Joi (s:List UInt8) (i:Nat) (hs:s.length≤1000000) (hi:i<s.length):Det cx 233 [.p (.str s),.p (.int .i64 i)] [] (.tup [.str (tk s i).1,.int .i64 (tk s i).2]) []:=by
 have h4:=Yi s i
 have h5:=Wg s i hi
 skip
 (refine B2.of_code (X:=cx) false [] (by simp) Tryz.func233 (by kernel_rfl) rfl (by simp only [List.length_cons,List.length_nil,Tryz.ntmps233];decide) (by simp) ?_;refine Ax hm _ _ _ ?_;simp only [Tryz.ntmps233,Tryz.results233,Cb,Ah,Bm,Br,Ab,Bd,A1,Bc,Bf,A0,Ch,Ca,F6,A9,Aj,B8,I7,Cg,Bq,Au,Bt,Ar,G0,Ib,Hf,Ag,Ae,A3,Cf,Bv,Bi,Bz,Bx,A4,B6,Bh,Az,A5,Cl,Ad,Ac,argW,List.map_cons,List.map_nil,List.append_nil,List.flatMap_cons,List.flatMap_nil,beq_iff_eq,Nat.reduceLT,Nat.reduceEqDiff,true_and,Cc,Bw,↓reduceIte,reduceCtorEq,Int.toNat_natCast,Int.natCast_nonneg,Nat.zero_add,Bool.true_and,Bool.or_true,Hi,wia (i:=i) (j:=rlen s i) (by omega) (by omega)])
 (repeat' (first | (refine iteI (fun h=>?_) (fun h=>?_))|(refine B1 (by first | omega | (simp (disch:=omega) only [Aa,Ak,Ai] at *;omega)) ?_;intro b hb)|(refine And.intro (by first | omega | (simp (disch:=omega) only [Aa,Ak,Ai] at *;omega)) ?_)|((first | (refine Ba hm (by rfl) (by kernel_rfl) ?_)|(refine Det.use (Jbs s i hs hi) ?_)|(refine Det.useQ (Jbs s i hs hi) ?_)|(refine Det.use (Jh5 s i hs hi) ?_)|(refine Det.useQ (Jh5 s i hs hi) ?_));simp only [Ah,Bm,Cn,Ab,B3,Bd,A1,Bc,Ct,Bf,A9,Aj,B8,E7,Ek,Bl,Au,Ar,E8,G8,D5,E2,La,Gf,Eb,Ag,Ae,A3,Bp,B6,Et,Bs,Cs,Cr,A6,A7,B9,Av,Ap,Al,B7,B5,Af,Am,Ao,Cy,Ay,A2,Ad,Ac,List.map_cons,List.map_nil,List.getElem?_cons_zero,List.getElem?_cons_succ,Nat.reduceLT,Nat.reduceEqDiff,true_and,and_true,Cc,↓reduceIte,reduceCtorEq,Int.toNat_natCast,Int.natCast_nonneg,PV.int.injEq,PV.str.injEq,L.tup.injEq,List.cons.injEq,Bool.true_and,Bool.and_true,Bool.or_false,Hi,wia (i:=i) (j:=rlen s i) (by omega) (by omega)])|(exact True.intro)|(exfalso;omega)))
 ·unfold tk;rw [if_pos (by omega)];exact ⟨rfl,rfl⟩
 ·unfold tk;rw [if_neg (by omega),Nat.add_sub_cancel_left];exact ⟨rfl,rfl⟩
theorem Q7 (s:List UInt8) (hs:s.length≤1000000):Det cx 186 [.p (.str s)] [] (.tup [.str (uq s).1,.int .i64 (uq s).2.1,.int .i64 (uq s).2.2]) []:=by
 (refine B2.of_code (X:=cx) false [] (by simp) Tryz.func186 (by kernel_rfl) rfl (by simp only [List.length_cons,List.length_nil,Tryz.ntmps186];decide) (by simp) ?_;refine Ax hm _ _ _ ?_;simp only [Tryz.ntmps186,Tryz.results186,Cb,Ah,Bm,Br,Ce,He,Cn,Ab,B3,Bd,A1,Da,Bc,D9,Bf,A0,Cw,Ca,F6,A9,Aj,B8,D0,I7,Bq,C2,Dq,D1,Dn,Au,Ep,Bt,Ar,Kx,Nh,Ib,Hf,Ag,Ae,A3,Bs,Cs,Cr,A6,A7,B9,Av,Ap,Al,B7,B5,Af,Am,Ao,Cy,Ay,A2,Ad,Ac,argW,List.map_cons,List.map_nil,List.getD_cons_zero,List.getD_cons_succ,beq_iff_eq,bne_iff_ne,ne_eq,Nat.reduceLT,Nat.reduceEqDiff,Int.reduceToNat,Int.reduceLE,true_and,and_true,Cc,↓reduceIte,reduceCtorEq,Ai,PV.int.injEq,PV.str.injEq,L.tup.injEq,List.cons.injEq,Bool.false_eq_true,Bool.true_and,Bool.and_true,Bool.or_true,Hi])
 (repeat' (first | (refine iteI (fun h=>?_) (fun h=>?_))|(refine B1 (by first | omega | (simp (disch:=omega) only [Aa,Ak,Ai] at *;omega)) ?_;intro b hb)|(refine And.intro (by first | omega | (simp (disch:=omega) only [Aa,Ak,Ai] at *;omega)) ?_)|((first | (refine Ba hm (by rfl) (by kernel_rfl) ?_));simp only [Dh])|(exact True.intro)|(exfalso;omega)))
 ·unfold uq;rw [if_pos (by omega)];exact ⟨rfl,rfl,rfl⟩
 ·unfold uq;rw [if_pos (by omega)];exact ⟨rfl,rfl,rfl⟩
 have e:uq s=uqF s (s.length+1) 1 []:=by unfold uq;rw [if_neg (by omega)]
 refine SWP.loop (fun x:Nat×Nat×List UInt8=>⟨Fp 50 [(0,.p (.str s)),(5,.p (.str x.2.2)),(6,.p (.int .i64 x.1))],[]⟩) (fun x=>1≤x.1∧x.1≤s.length∧s.length+1≤x.1+x.2.1∧x.2.2.length≤4 * x.1∧uqF s x.2.1 x.1 x.2.2=uq s) (fun x=>s.length - x.1) (1,s.length+1,[]) (St.le_slots (by simp only [Cd,Ck,Ac,Be,Aq,Nat.reduceEqDiff,reduceIte,Nat.reduceLT,Nat.reduceLeDiff];simp (disch:=omega) [Aq,A8,Cm,Aa] <;> (repeat' apply And.intro) <;> omega) (by simp (disch:=omega) [Dc,Ee,C9,Bj,Aq,A8,Cm,Aa]) (by simp [De])) ⟨by simp,by simp only;omega,by simp,by simp,e.symm⟩ ?_
 rintro ⟨i,f,out⟩ ⟨h0,h1,h2,h3,h4⟩
 simp only at h0 h1 h2 h3 h4
 obtain ⟨g,rfl⟩:∃ g,f=g+1:=⟨f - 1,by omega⟩
 by_cases hlt:¬ i<s.length
 ·(refine Ax hm _ _ _ ?_;simp only [Cb,Ah,Bm,Br,Ce,Eh,Cn,Ab,Ci,B3,B0,Ea,Bd,A1,Bc,Bf,A0,Ch,Ca,F6,A9,Aj,B8,I7,Dw,Cg,Bq,Au,Bt,Ar,E8,G0,Dm,Ds,Dl,Ib,Hf,Ag,Ae,A3,Cf,Bv,Bi,Bz,Bx,A4,B6,Bh,Az,A5,Bs,Cs,Cr,A6,A7,B9,Av,Ap,Al,B7,B5,Af,Am,Ao,Cy,Ay,Cl,A2,Ad,Ac,Dy,List.map_cons,List.map_nil,List.append_nil,List.flatMap_cons,List.flatMap_nil,decide_eq_true_eq,beq_iff_eq,Nat.reduceLT,Nat.reduceEqDiff,true_and,and_true,Cc,Bw,↓reduceIte,reduceCtorEq,Int.toNat_natCast,Int.natCast_nonneg,PV.int.injEq,PV.str.injEq,L.tup.injEq,List.cons.injEq,Bool.true_and,Bool.and_true,Bool.or_false,Bool.or_true,Hi])
  (repeat' (first | (refine iteI (fun h=>?_) (fun h=>?_))|(refine B1 (by first | omega | (simp (disch:=omega) only [Aa,Ak,Ai] at *;omega)) ?_;intro b hb)|(refine And.intro (by first | omega | (simp (disch:=omega) only [Aa,Ak,Ai] at *;omega)) ?_)|((first | (refine Ba hm (by rfl) (by kernel_rfl) ?_));simp only [Dh])|(exact True.intro)|(exfalso;omega)))
  rw [← h4,uqF,if_neg hlt];exact ⟨rfl,rfl,rfl⟩
 ·have hlt:=Decidable.not_not.1 hlt
  have ht:=tk_le s i hlt
  skip
  (refine Ax hm _ _ _ ?_;simp only [Cb,Ah,Bm,Br,Ce,Eh,Cn,Ab,Ci,B3,B0,Ea,Bd,A1,Bc,Bf,A0,Ch,Ca,F6,A9,Aj,B8,I7,Dw,Cg,Bq,Au,Bt,Ar,E8,G0,Dm,Ds,Dl,Ib,Hf,Ag,Ae,A3,Cf,Bv,Bi,Bz,Bx,A4,B6,Bh,Az,A5,Bs,Cs,Cr,A6,A7,B9,Av,Ap,Al,B7,B5,Af,Am,Ao,Cy,Ay,Cl,A2,Ad,Ac,Dy,List.map_cons,List.map_nil,List.append_nil,List.flatMap_cons,List.flatMap_nil,decide_eq_true_eq,beq_iff_eq,Nat.reduceLT,Nat.reduceEqDiff,true_and,and_true,Cc,Bw,↓reduceIte,reduceCtorEq,Int.toNat_natCast,Int.natCast_nonneg,PV.int.injEq,PV.str.injEq,L.tup.injEq,List.cons.injEq,Bool.true_and,Bool.and_true,Bool.or_false,Bool.or_true,Hi,wi1 (i:=i) (by omega),wia (i:=i) (j:=(tk s i).2) (by omega) (by omega)])
  (repeat' (first | (refine iteI (fun h=>?_) (fun h=>?_))|(refine B1 (by first | omega | (simp (disch:=omega) only [Aa,Ak,Ai] at *;omega)) ?_;intro b hb)|(refine And.intro (by first | omega | (simp (disch:=omega) only [Aa,Ak,Ai] at *;omega)) ?_)|((first | (refine Ba hm (by rfl) (by kernel_rfl) ?_)|(refine Det.use (Joi s i hs hlt) ?_)|(refine Det.useQ (Joi s i hs hlt) ?_));simp only [Cb,Ah,Bm,Br,Cn,Ab,B3,Bk,Ea,Bd,A1,Da,Bc,D9,Ct,Bf,A0,Cw,Ca,F6,A9,Aj,B8,D0,I7,Ek,Bl,Bq,C2,Dq,D1,Dn,Au,Ep,Bt,Ar,E8,G0,Dm,Mo,G8,Ib,Hf,Eb,Ag,Ae,A3,Bp,Et,Bs,Cs,Cr,A6,A7,B9,Av,Ap,Al,B7,B5,Af,Am,Ao,Cy,Ay,A2,Ad,Ac,Dy,List.map_cons,List.map_nil,List.getD_cons_zero,List.getD_cons_succ,List.getElem?_cons_zero,List.getElem?_cons_succ,decide_eq_true_eq,beq_iff_eq,Nat.reduceLT,Nat.reduceEqDiff,true_and,and_true,Cc,↓reduceIte,reduceCtorEq,Int.toNat_natCast,Int.natCast_nonneg,PV.int.injEq,PV.str.injEq,L.tup.injEq,List.cons.injEq,Bool.false_eq_true,Bool.true_and,Bool.and_true,Bool.or_false,Bool.or_true,Hi,wi1 (i:=i) (by omega),wia (i:=i) (j:=(tk s i).2) (by omega) (by omega)])|(exact True.intro)|(exfalso;omega)))
  ·rw [← h4,uqF,if_pos hlt,if_pos (by omega)];exact ⟨rfl,rfl,rfl⟩
  ·rw [← h4,uqF,if_pos hlt,if_neg (by omega),if_pos (by omega)];exact ⟨rfl,rfl,rfl⟩
  ·rw [← h4,uqF,if_pos hlt,if_neg (by omega),if_pos (by omega)];exact ⟨rfl,rfl,rfl⟩
  ·refine ⟨(i+(tk s i).2,g,out ++ (tk s i).1),⟨by simp only;omega,by simp only;omega,by simp only;omega,by simp only [List.length_append];omega,?_⟩,by simp only;omega,(St.le_slots (by simp only [Cd,Ck,Ac,Be,Aq,Nat.reduceEqDiff,reduceIte,Nat.reduceLT,Nat.reduceLeDiff];simp (disch:=omega) [Aq,A8,Cm,Aa] <;> (repeat' apply And.intro) <;> omega) (by simp (disch:=omega) [Dc,Ee,C9,Bj,Aq,A8,Cm,Aa]) (by simp [De]))⟩
   simp only
   rw [← h4,uqF,if_pos hlt,if_neg (by omega),if_neg (by omega)]
end Go.LX
set_option maxRecDepth 100000
set_option maxHeartbeats 2000000
namespace Go.LX
open Go Go.RowKit Go.Proofs
attribute [local irreducible] B2 SWP Hb
theorem pre2 {s:List UInt8} (h:6≤s.length):s.take 2=[92,117] ↔ at_ s 0=92∧at_ s 1=117:=by
 match s,h with
 | a :: b :: t,_ =>
  simp only [List.take_succ_cons,List.take_zero,List.cons.injEq,and_true,R5,Jso]
  constructor
  ·rintro ⟨rfl,rfl⟩;exact ⟨rfl,rfl⟩
  ·rintro ⟨h1,h2⟩;exact ⟨UInt8.toNat_inj.1 h1,UInt8.toNat_inj.1 h2⟩
theorem Qb (s:List UInt8) (hs:s.length≤1000000):Det cx 224 [.p (.str s)] [] (.p (.int .i64 (u4 s))) []:=by
 by_cases h6:s.length<6
 ·rw [show u4 s = -1 by unfold u4;rw [if_neg (by omega)]]
  (refine B2.of_code (X:=cx) false [] (by simp) Tryz.func224 (by kernel_rfl) rfl (by simp only [List.length_cons,List.length_nil,Tryz.ntmps224];decide) (by simp) ?_;refine Ax hm _ _ _ ?_;simp only [Tryz.ntmps224,Tryz.results224,Ah,Bm,Br,Cn,Ab,B3,Bd,A1,Da,Bc,D9,Bf,A0,Ch,Cw,Ca,F6,A9,Aj,B8,D0,Dw,Cg,Bq,C2,Dq,D1,Dn,Au,Bt,Ar,Dm,Ds,Dl,Ag,Ae,A3,Cf,Bv,Bi,Bz,Bx,A4,B6,Bh,Az,A5,Bs,Cs,Cr,A6,A7,B9,Av,Ap,Al,B7,B5,Af,Am,Ao,Co,Ay,Cl,A2,Ad,Ac,argW,List.map_cons,List.map_nil,List.getD_cons_zero,List.getD_cons_succ,List.append_nil,List.flatMap_cons,List.flatMap_nil,decide_eq_true_eq,Nat.reduceLT,Nat.reduceEqDiff,Int.reduceNeg,Cc,Bw,↓reduceIte,reduceCtorEq,Bool.false_eq_true,Bool.or_true,and_self,Hi])
  (repeat' (first | (refine iteI (fun h=>?_) (fun h=>?_))|(refine B1 (by first | omega | (simp (disch:=omega) only [Aa,Ak,Ai] at *;omega)) ?_;intro b hb)|(refine And.intro (by first | omega | (simp (disch:=omega) only [Aa,Ak,Ai] at *;omega)) ?_)|((first | (refine Ba hm (by rfl) (by kernel_rfl) ?_));simp only [Dh])|(exact True.intro)|(exfalso;omega)))
 have hT:((s.drop 2).take 4).length=4:=by simp;omega
 have hp:=Jkr _ hT
 have hca:=Jfp _ hT
 have hu:u4 s=if at_ s 0=92∧at_ s 1=117 then (match hexN ((s.drop 2).take 4) 0 with | some n=>(n:Int) | none=>-1) else -1:=by
  unfold u4
  by_cases hq:at_ s 0=92∧at_ s 1=117
  ·rw [if_pos hq,if_pos ⟨by omega,hq⟩];rfl
  ·rw [if_neg hq,if_neg (fun h=>hq h.2)]
 have hmk:0≤iaF ((s.drop 2).take 4) 5 0→hexN ((s.drop 2).take 4) 0=none:=fun h=>by
  obtain ⟨k,h1,h2⟩:=Jls _ _ _ h
  exact Jg2 _ _ k h1 h2
 generalize hTT:(s.drop 2).take 4=T at *
 cases hx:hexN T 0 with
 | none =>
  rw [hx] at hp hu
  simp only [Jin,ite_self] at hp hu
  rw [hu]
  skip
  (refine B2.of_code (X:=cx) false [] (by simp) Tryz.func224 (by kernel_rfl) rfl (by simp only [List.length_cons,List.length_nil,Tryz.ntmps224];decide) (by simp) ?_;refine Ax hm _ _ _ ?_;simp only [Tryz.ntmps224,Tryz.results224,Ah,Bm,Br,Cn,Ab,B3,Bd,A1,Da,Bc,D9,Bf,A0,Ch,Cw,Ca,F6,A9,Aj,B8,D0,Dw,Cg,Bq,C2,Dq,D1,Dn,Au,Bt,Ar,Dm,Ds,Dl,Ag,Ae,A3,Cf,Bv,Bi,Bz,Bx,A4,B6,Bh,Az,A5,Bs,Cs,Cr,A6,A7,B9,Av,Ap,Al,B7,B5,Af,Am,Ao,Co,Ay,Cl,A2,Ad,Ac,argW,List.map_cons,List.map_nil,List.getD_cons_zero,List.getD_cons_succ,List.append_nil,List.flatMap_cons,List.flatMap_nil,decide_eq_true_eq,Nat.reduceLT,Nat.reduceEqDiff,Int.reduceNeg,Cc,Bw,↓reduceIte,reduceCtorEq,Bool.false_eq_true,Bool.or_true,and_self,Hi])
  (repeat' (first | (refine iteI (fun h=>?_) (fun h=>?_))|(refine B1 (by first | omega | (simp (disch:=omega) only [Aa,Ak,Ai] at *;omega)) ?_;intro b hb)|(refine And.intro (by first | omega | (simp (disch:=omega) only [Aa,Ak,Ai] at *;omega)) ?_)|((first | (refine Ba hm (by rfl) (by kernel_rfl) ?_)|(refine Det.use (G4 s _ hs (by decide)) ?_)|(refine Det.useQ (G4 s _ hs (by decide)) ?_)|(refine Det.use (hca) ?_)|(refine Det.useQ (hca) ?_)|(refine Er.use (hca) ?_)|(refine Dp.use (hca) ?_)|(refine Det.use (hp) ?_)|(refine Det.useQ (hp) ?_)|(refine Er.use (hp) ?_)|(refine Dp.use (hp) ?_));simp only [Cb,Ah,Bm,Br,Cn,Ab,B3,Bd,A1,Da,Bc,D9,Ct,Bf,A0,Ch,Cw,Ca,F6,Lf,A9,Aj,B8,N7,D0,E7,Ek,Cg,Bl,Bq,C2,Dq,D1,Dn,Xc,Jn4,Mf,Bt,Ar,J7,G8,D5,E2,La,Gf,Eb,Ag,Ae,A3,Cf,Bv,Bi,Bz,Bx,A4,Bp,B6,Et,Bh,Az,A5,Bs,Cs,Cr,A6,A7,B9,Av,Ap,Al,B7,B5,Af,Am,Ao,Co,Ay,Cl,A2,Ad,Ac,List.map_cons,List.map_nil,List.getD_cons_zero,List.getD_cons_succ,List.length_cons,List.length_nil,List.append_nil,List.flatMap_cons,List.flatMap_nil,List.getElem?_cons_zero,List.getElem?_cons_succ,decide_eq_true_eq,beq_eq_false_iff_ne,Bool.not_eq_eq_eq_not,ne_eq,Nat.reduceLT,Nat.reduceEqDiff,Nat.reduceAdd,Nat.reduceSub,Int.reduceToNat,Int.reduceLE,Int.reduceNeg,true_and,Cc,Bw,↓reduceIte,reduceCtorEq,Nat.zero_add,Bool.not_true,Bool.not_false,Bool.false_eq_true,Bool.true_and,Bool.or_true,and_self,Hi,Xn,hTT])|(exact True.intro)|(exfalso;omega)))
  all_goals first
   | (rw [hu,if_neg (by rw [← pre2 (by omega)];assumption)])
   | (rw [hu,if_pos (by rw [← pre2 (by omega)];simp_all)])
 | some n =>
  have hia:¬ 0≤iaF T 5 0:=fun h=>by rw [hmk h] at hx;cases hx
  have hn:=Jji _ _ _ hx
  rw [hT] at hn
  have hwn:=wi0 (c:=n) (by omega)
  rw [hx] at hp hu
  simp only [Jin] at hp hu
  skip
  (refine B2.of_code (X:=cx) false [] (by simp) Tryz.func224 (by kernel_rfl) rfl (by simp only [List.length_cons,List.length_nil,Tryz.ntmps224];decide) (by simp) ?_;refine Ax hm _ _ _ ?_;simp only [Tryz.ntmps224,Tryz.results224,Ah,Bm,Br,Cn,Ab,B3,Bd,A1,Da,Bc,D9,Bf,A0,Ch,Cw,Ca,F6,A9,Aj,B8,D0,Dw,Cg,Bq,C2,Dq,D1,Dn,Au,Bt,Ar,Dm,Ds,Dl,Ag,Ae,A3,Cf,Bv,Bi,Bz,Bx,A4,B6,Bh,Az,A5,Bs,Cs,Cr,A6,A7,B9,Av,Ap,Al,B7,B5,Af,Am,Ao,Co,Ay,Cl,A2,Ad,Ac,argW,List.map_cons,List.map_nil,List.getD_cons_zero,List.getD_cons_succ,List.append_nil,List.flatMap_cons,List.flatMap_nil,decide_eq_true_eq,Nat.reduceLT,Nat.reduceEqDiff,Int.reduceNeg,true_and,and_true,Cc,Bw,↓reduceIte,reduceCtorEq,L.p.injEq,PV.int.injEq,Bool.false_eq_true,Bool.true_and,Bool.and_true,Bool.or_true,Hi])
  (repeat' (first | (refine iteI (fun h=>?_) (fun h=>?_))|(refine B1 (by first | omega | (simp (disch:=omega) only [Aa,Ak,Ai] at *;omega)) ?_;intro b hb)|(refine And.intro (by first | omega | (simp (disch:=omega) only [Aa,Ak,Ai] at *;omega)) ?_)|((first | (refine Ba hm (by rfl) (by kernel_rfl) ?_)|(refine Det.use (G4 s _ hs (by decide)) ?_)|(refine Det.useQ (G4 s _ hs (by decide)) ?_)|(refine Det.use (hca) ?_)|(refine Det.useQ (hca) ?_)|(refine Er.use (hca) ?_)|(refine Dp.use (hca) ?_)|(refine Det.use (hp) ?_)|(refine Det.useQ (hp) ?_)|(refine Er.use (hp) ?_)|(refine Dp.use (hp) ?_));simp only [Cb,Ah,Bm,Br,Cn,Ab,B3,Bd,A1,Da,Bc,D9,Ct,Bf,A0,Ch,Cw,Ca,F6,Lf,A9,Aj,B8,N7,Kb,D0,E7,Ek,Cg,Bl,Bq,C2,Dq,D1,Dn,Xc,Jht,Mf,Bt,Ar,J7,L4,Hz,Kl,Hn,G8,D5,E2,La,Gf,Eb,Ag,Ae,A3,Cf,Bv,Bi,Bz,Bx,A4,Bp,B6,Et,Bh,Az,A5,Bs,Cs,Cr,A6,A7,B9,Av,Ap,Al,B7,B5,Af,Am,Ao,Co,Ay,Cl,A2,Ad,Ac,List.map_cons,List.map_nil,List.getD_cons_zero,List.getD_cons_succ,List.length_cons,List.length_nil,List.append_nil,List.flatMap_cons,List.flatMap_nil,List.getElem?_cons_zero,List.getElem?_cons_succ,decide_eq_true_eq,beq_eq_false_iff_ne,Bool.not_eq_eq_eq_not,ne_eq,Nat.reduceLT,Nat.reduceEqDiff,Nat.reduceAdd,Nat.reduceSub,Int.reduceToNat,Int.reduceLE,Int.reduceNeg,true_and,and_true,Cc,Bw,↓reduceIte,reduceCtorEq,Nat.zero_add,Bool.not_true,L.p.injEq,PV.int.injEq,Bool.false_eq_true,Bool.true_and,Bool.and_true,Bool.or_true,Uq,Hi,Xn,Jan,hTT,hTT,hwn])|(exact True.intro)|(exfalso;omega)))
  all_goals first
   | (rw [hu,if_neg (by rw [← pre2 (by omega)];assumption)])
   | (rw [hu,if_pos (by rw [← pre2 (by omega)];simp_all)])
theorem Ja7 (c:Nat):(Lr c=none∧K2 (.int .u8 c) N3 0=some none)∨∃ i r,Lr c=some r∧r≤92∧K2 (.int .u8 c) N3 0=some (some (i,.int .i32 r)):=by
 have key:∀ (b:Int) (v:PV) (es:List (PV×PV)) (i:Nat),K2 (.int .u8 c) ((.int .u8 b,v) :: es) i=if (c:Int)=b then some (some (i,v)) else K2 (.int .u8 c) es (i+1):=fun b v es i=>by
  by_cases h:(c:Int)=b
  ·simp [K2,Ww,h]
  ·have:((c:Int) == b)=false:=by simp [h]
   simp [K2,Ww,this,h]
 unfold Lr N3
 simp only [key]
 have hc:∀ b:Nat,((c:Int)=(b:Int))=(c=b):=fun b=>by apply propext;omega
 have e1:=hc 34
 have e2:=hc 92
 have e3:=hc 47
 have e4:=hc 98
 have e5:=hc 102
 have e6:=hc 110
 have e7:=hc 114
 have e8:=hc 116
 simp only [Int.cast_ofNat_Int] at e1 e2 e3 e4 e5 e6 e7 e8
 simp only [e1,e2,e3,e4,e5,e6,e7,e8]
 by_cases h1:c=34
 ·exact .inr ⟨0,34,by simp [h1],by decide,by simp [h1]⟩
 by_cases h2:c=92
 ·exact .inr ⟨1,92,by simp [h2],by decide,by simp [h2]⟩
 by_cases h3:c=47
 ·exact .inr ⟨2,47,by simp [h3],by decide,by simp [h3]⟩
 by_cases h4:c=98
 ·exact .inr ⟨3,8,by simp [h4],by decide,by simp [h4]⟩
 by_cases h5:c=102
 ·exact .inr ⟨4,12,by simp [h5],by decide,by simp [h5]⟩
 by_cases h6:c=110
 ·exact .inr ⟨5,10,by simp [h6],by decide,by simp [h6]⟩
 by_cases h7:c=114
 ·exact .inr ⟨6,13,by simp [h7],by decide,by simp [h7]⟩
 by_cases h8:c=116
 ·exact .inr ⟨7,9,by simp [h8],by decide,by simp [h8]⟩
 ·refine .inl ⟨by simp [*],?_⟩
  rw [if_neg h1,if_neg h2,if_neg h3,if_neg h4,if_neg h5,if_neg h6,if_neg h7,if_neg h8]
  rfl
theorem u4_six {s:List UInt8} (h:0≤u4 s):6≤s.length:=by
 unfold u4 at h
 split at h
 ·rename_i h6;exact h6.1
 ·omega
theorem Yt (s:List UInt8) (hs:s.length≤1000000):Det cx 177 [.p (.str s)] [] (.tup [.int .i32 (escR s).1,.int .i64 (escR s).2]) []:=by
 obtain ⟨hu1,hu2⟩:=Jgq s
 obtain ⟨hv1,hv2⟩:=Jgq (s.drop 6)
 have hB:=Nd s 1
 have h66:0≤u4 s→6≤s.length:=u4_six
 rcases (Ja7 (at_ s 1)).symm with ⟨i,r,hsr,hr,hmf⟩ | ⟨hsr,hmf⟩
 ·skip
  (refine B2.of_code (X:=cx) false [] (by simp) Tryz.func177 (by kernel_rfl) rfl (by simp only [List.length_cons,List.length_nil,Tryz.ntmps177];decide) (by simp) ?_;refine Ax hm _ _ _ ?_;simp only [Tryz.ntmps177,Tryz.results177,Cb,Ah,Bm,Br,Cn,Ab,B3,Bd,A1,Bc,Bf,A0,Ca,A9,Aj,B8,Dw,Ja,Bq,Au,Bt,Ar,Dm,Ds,Dl,Ag,Ae,A3,Bs,Cs,Cr,A6,A7,B9,Av,Ap,Al,B7,B5,Af,Am,Ao,Cy,Ay,A2,Ad,Ac,argW,List.map_cons,List.map_nil,decide_eq_true_eq,Nat.reduceLT,Nat.reduceEqDiff,true_and,and_true,Cc,↓reduceIte,reduceCtorEq,PV.int.injEq,L.tup.injEq,List.cons.injEq,Bool.true_and,Bool.and_true,Bool.or_true,Hi])
  (repeat' (first | (refine iteI (fun h=>?_) (fun h=>?_))|(refine B1 (by first | omega | (simp (disch:=omega) only [Aa,Ak,Ai] at *;omega)) ?_;intro b hb)|(refine And.intro (by first | omega | (simp (disch:=omega) only [Aa,Ak,Ai] at *;omega)) ?_)|((first | (refine Ba hm (by rfl) (by kernel_rfl) ?_)|(refine Det.use (V3) ?_)|(refine Det.useQ (V3) ?_)|(refine Det.use (Qb _ hs) ?_)|(refine Det.useQ (Qb _ hs) ?_)|(refine Det.use (Qb (s.drop 6) (by simp;omega)) ?_)|(refine Det.useQ (Qb (s.drop 6) (by simp;omega)) ?_));simp only [Ah,Bm,Br,Cn,Ab,B3,Bd,A1,Mv,Kf,Bc,Bf,A0,Ca,A9,Aj,Jn,S1,Xw,Zq,Je2,Ot,Bo,Bl,Bq,G8,Ib,Hf,Eb,Ag,Ae,A3,S9,Jgk,Jlm,Jfd,Pw,O8,Mk,Bs,Cs,Cr,A6,A7,B9,Av,Ap,Al,B7,B5,Af,Am,Ao,Cy,Ay,A2,Ad,Ac,List.map_cons,List.map_nil,List.getElem?_cons_zero,List.getElem?_cons_succ,Nat.reduceLT,Nat.reduceEqDiff,Int.reduceToNat,Int.reduceLE,true_and,and_true,Cc,↓reduceIte,reduceCtorEq,PV.int.injEq,L.tup.injEq,List.cons.injEq,Bool.true_and,Bool.and_true,beq_self_eq_true,Qs,Hi,Jni,Jh4,hmf])|(exact True.intro)|(exfalso;omega)))
  ·unfold escR;rw [if_pos (by omega)];exact ⟨rfl,rfl⟩
  ·unfold escR;rw [if_neg (by omega),hsr];exact ⟨rfl,rfl⟩
 ·have z0:=Jlf (n:=u4 s) (by omega) (by omega)
  have z1:=Aa (n:=u4 s - 55296) (by omega) (by omega)
  have z2:IntKind.i64.wrap ((u4 s - 55296) * 2 ^ min 10 IntKind.i64.bits)=(u4 s - 55296) * 1024:=Aa (n:=(u4 s - 55296) * 1024) (by omega) (by omega)
  have z3:=Aa (n:=65536+(u4 s - 55296) * 1024) (by omega) (by omega)
  have z4:=Aa (n:=65536+(u4 s - 55296) * 1024+u4 (s.drop 6)) (by omega) (by omega)
  have z5:=Aa (n:=65536+(u4 s - 55296) * 1024+u4 (s.drop 6) - 56320) (by omega) (by omega)
  have z6:=Jlf (n:=65536+(u4 s - 55296) * 1024+u4 (s.drop 6) - 56320) (by omega) (by omega)
  skip
  (refine B2.of_code (X:=cx) false [] (by simp) Tryz.func177 (by kernel_rfl) rfl (by simp only [List.length_cons,List.length_nil,Tryz.ntmps177];decide) (by simp) ?_;refine Ax hm _ _ _ ?_;simp only [Tryz.ntmps177,Tryz.results177,Cb,Ah,Bm,Br,Cn,Ab,B3,Bd,A1,Bc,Bf,A0,Ca,A9,Aj,B8,Dw,Ja,Bq,Au,Bt,Ar,Dm,Ds,Dl,Ag,Ae,A3,Bs,Cs,Cr,A6,A7,B9,Av,Ap,Al,B7,B5,Af,Am,Ao,Cy,Ay,A2,Ad,Ac,argW,List.map_cons,List.map_nil,decide_eq_true_eq,Nat.reduceLT,Nat.reduceEqDiff,true_and,and_true,Cc,↓reduceIte,reduceCtorEq,PV.int.injEq,L.tup.injEq,List.cons.injEq,Bool.true_and,Bool.and_true,Bool.or_true,Hi])
  (repeat' (first | (refine iteI (fun h=>?_) (fun h=>?_))|(refine B1 (by first | omega | (simp (disch:=omega) only [Aa,Ak,Ai] at *;omega)) ?_;intro b hb)|(refine And.intro (by first | omega | (simp (disch:=omega) only [Aa,Ak,Ai] at *;omega)) ?_)|((first | (refine Ba hm (by rfl) (by kernel_rfl) ?_)|(refine Det.use (V3) ?_)|(refine Det.useQ (V3) ?_)|(refine Det.use (Qb _ hs) ?_)|(refine Det.useQ (Qb _ hs) ?_)|(refine Det.use (Qb (s.drop 6) (by simp;omega)) ?_)|(refine Det.useQ (Qb (s.drop 6) (by simp;omega)) ?_));simp only [Cb,Ah,Bm,Br,Ce,Cn,Ab,B3,Bk,Ea,Bd,A1,Da,Mv,Kf,Bc,D9,Ct,Bf,A0,Ch,Cw,Ca,A9,Aj,B8,Kb,D0,E7,Cg,Jn,S1,Xw,Zq,Je2,Ot,Bo,Bl,Bq,C2,Dq,Db,D1,J2,Dn,Au,Bt,Ar,u_shl,E8,M5,Dm,Lc,L4,Hz,Kl,Hn,G8,Ib,Hf,Ev,D5,E2,H4,Gf,Eb,Ag,Ae,A3,Cf,Bv,Bi,Bz,Bx,A4,Bp,B6,Bh,Az,A5,S9,Jgk,Jlm,Jfk,Pw,O8,Mk,Bs,Cs,Cr,A6,A7,B9,Av,Ap,Al,B7,B5,Af,Am,Ao,Cy,Ay,Cl,A2,Ad,Ac,List.map_cons,List.map_nil,List.getD_cons_zero,List.getD_cons_succ,List.append_nil,List.flatMap_cons,List.flatMap_nil,List.getElem?_cons_zero,List.getElem?_cons_succ,decide_eq_true_eq,Nat.reduceLT,Nat.reduceEqDiff,Int.reduceToNat,Int.reduceLE,true_and,and_true,Cc,Bw,↓reduceIte,reduceCtorEq,PV.int.injEq,L.tup.injEq,List.cons.injEq,Bool.false_eq_true,Bool.true_and,Bool.and_true,Bool.or_false,Bool.or_true,beq_self_eq_true,Uq,Qs,Hi,Q0,Jni,Jh4,hmf,hmf,z0,z1,z2,z3,z4,z5,z6])|(exact True.intro)|(exfalso;omega)))
  ·unfold escR;rw [if_pos (by omega)];exact ⟨rfl,rfl⟩
  all_goals (unfold escR;rw [if_neg (by omega),hsr];simp only)
  all_goals ((repeat' split) <;> first | (exfalso;omega)|(exact ⟨rfl,rfl⟩)|(refine ⟨?_,rfl⟩;simp only;omega))
end Go.LX
