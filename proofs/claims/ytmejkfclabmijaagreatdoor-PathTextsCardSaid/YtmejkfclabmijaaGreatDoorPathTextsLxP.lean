/- Package quote, and what the document says: from below. -/
import Derived.Test.YtmejkfclabmijaaGreatDoorPathTextsLxO
set_option linter.unusedSimpArgs false
set_option linter.unusedVariables false
set_option linter.unusedSectionVars false
set_option linter.unnecessarySimpa false
set_option maxRecDepth 100000
set_option maxHeartbeats 2000000
namespace Go.LX
open Go Go.RowKit Go.Proofs
attribute [local irreducible] B2 SWP Hb
def N3:List (PV×PV):=[(.int .u8 34,.int .i32 34),(.int .u8 92,.int .i32 92),(.int .u8 47,.int .i32 47),(.int .u8 98,.int .i32 8),(.int .u8 102,.int .i32 12),(.int .u8 110,.int .i32 10),(.int .u8 114,.int .i32 13),(.int .u8 116,.int .i32 9)]
theorem mp0:mput (.int .u8 34) (.int .i32 34) []=some [(.int .u8 34,.int .i32 34)]:=rfl
theorem mp1:mput (.int .u8 92) (.int .i32 92) [(.int .u8 34,.int .i32 34)]=some [(.int .u8 34,.int .i32 34),(.int .u8 92,.int .i32 92)]:=rfl
theorem mp2:mput (.int .u8 47) (.int .i32 47) [(.int .u8 34,.int .i32 34),(.int .u8 92,.int .i32 92)]=some [(.int .u8 34,.int .i32 34),(.int .u8 92,.int .i32 92),(.int .u8 47,.int .i32 47)]:=rfl
theorem mp3:mput (.int .u8 98) (.int .i32 8) [(.int .u8 34,.int .i32 34),(.int .u8 92,.int .i32 92),(.int .u8 47,.int .i32 47)]=some [(.int .u8 34,.int .i32 34),(.int .u8 92,.int .i32 92),(.int .u8 47,.int .i32 47),(.int .u8 98,.int .i32 8)]:=rfl
theorem mp4:mput (.int .u8 102) (.int .i32 12) [(.int .u8 34,.int .i32 34),(.int .u8 92,.int .i32 92),(.int .u8 47,.int .i32 47),(.int .u8 98,.int .i32 8)]=some [(.int .u8 34,.int .i32 34),(.int .u8 92,.int .i32 92),(.int .u8 47,.int .i32 47),(.int .u8 98,.int .i32 8),(.int .u8 102,.int .i32 12)]:=rfl
theorem mp5:mput (.int .u8 110) (.int .i32 10) [(.int .u8 34,.int .i32 34),(.int .u8 92,.int .i32 92),(.int .u8 47,.int .i32 47),(.int .u8 98,.int .i32 8),(.int .u8 102,.int .i32 12)]=some [(.int .u8 34,.int .i32 34),(.int .u8 92,.int .i32 92),(.int .u8 47,.int .i32 47),(.int .u8 98,.int .i32 8),(.int .u8 102,.int .i32 12),(.int .u8 110,.int .i32 10)]:=rfl
theorem mp6:mput (.int .u8 114) (.int .i32 13) [(.int .u8 34,.int .i32 34),(.int .u8 92,.int .i32 92),(.int .u8 47,.int .i32 47),(.int .u8 98,.int .i32 8),(.int .u8 102,.int .i32 12),(.int .u8 110,.int .i32 10)]=some [(.int .u8 34,.int .i32 34),(.int .u8 92,.int .i32 92),(.int .u8 47,.int .i32 47),(.int .u8 98,.int .i32 8),(.int .u8 102,.int .i32 12),(.int .u8 110,.int .i32 10),(.int .u8 114,.int .i32 13)]:=rfl
theorem mp7:mput (.int .u8 116) (.int .i32 9) [(.int .u8 34,.int .i32 34),(.int .u8 92,.int .i32 92),(.int .u8 47,.int .i32 47),(.int .u8 98,.int .i32 8),(.int .u8 102,.int .i32 12),(.int .u8 110,.int .i32 10),(.int .u8 114,.int .i32 13)]=some [(.int .u8 34,.int .i32 34),(.int .u8 92,.int .i32 92),(.int .u8 47,.int .i32 47),(.int .u8 98,.int .i32 8),(.int .u8 102,.int .i32 12),(.int .u8 110,.int .i32 10),(.int .u8 114,.int .i32 13),(.int .u8 116,.int .i32 9)]:=rfl
theorem V3:Det cx 223 [] [] (.p (.mp N3)) []:=by
 skip
 (refine B2.of_code (X:=cx) false [] (by simp) Tryz.func223 (by kernel_rfl) rfl (by simp only [List.length_nil,Tryz.ntmps223];decide) (by simp) ?_;refine Ax hm _ _ _ ?_;simp only [Tryz.ntmps223,Tryz.results223,Ah,Bm,Cn,Ab,Bd,A1,Bc,C1,Ct,Bf,A0,Ca,Jn3,A9,Aj,Zp,Jl3,Bo,Cu,Ag,Ae,A3,Xh,Fu,Jaz,F4,Jad,Jn9,Uy,Jsj,u_muT,Jsb,O8,Mk,Bs,Cs,Cr,A6,A7,B9,Av,Ap,Al,B7,B5,Af,Am,Ao,Co,Ay,Aw,B4,Cp,Dx,Dk,Ez,I9,Jd1,A2,Ad,Ac,Bn,C6,Bg,Bb,argW,List.map_cons,List.map_nil,Nat.reduceLT,true_and,and_true,Cc,↓reduceIte,L.p.injEq,Bool.true_and,Bool.and_true,beq_self_eq_true,Qs,Jh4,mp0,mp1,mp2,mp3,mp4,mp5,mp6,mp7])
 rfl
theorem wi1 {i:Nat} (h:i≤3000000):IntKind.i64.wrap ((i:Int)+1)=((i+1:Nat):Int):=by rw [Aa (by omega) (by omega)];omega
theorem wi2 {i:Nat} (h:i≤3000000):IntKind.i64.wrap ((i:Int)+2)=((i+2:Nat):Int):=by rw [Aa (by omega) (by omega)];omega
theorem wi3 {i:Nat} (h:i≤3000000):IntKind.i64.wrap ((i:Int)+3)=((i+3:Nat):Int):=by rw [Aa (by omega) (by omega)];omega
theorem wi6 {i:Nat} (h:i≤3000000):IntKind.i64.wrap ((i:Int)+6)=((i+6:Nat):Int):=by rw [Aa (by omega) (by omega)];omega
theorem wia {i j:Nat} (h:i≤3000000) (h2:j≤3000000):IntKind.i64.wrap ((i:Int)+(j:Int))=((i+j:Nat):Int):=by rw [Aa (by omega) (by omega)];omega
theorem Jrx (s:List UInt8) (i:Nat) (hs:s.length≤1000000) (hi:i≤2000000):Det cx 188 [.p (.str s),.p (.int .i64 i)] [] (.p (.bool (ct s i))) []:=by
 (refine B2.of_code (X:=cx) false [] (by simp) Tryz.func188 (by kernel_rfl) rfl (by simp only [List.length_cons,List.length_nil,Tryz.ntmps188];decide) (by simp) ?_;refine Ax hm _ _ _ ?_;simp only [Tryz.ntmps188,Tryz.results188,Ah,Bm,Cn,Ab,Bd,A1,Da,Bc,D9,Bf,A0,Cw,Ca,A9,Aj,B8,D0,I7,Dw,C2,Dq,Db,Dn,Au,Bt,Ar,Dm,Lc,Ds,Dl,Ib,Hf,Ag,Ae,A3,Bs,Cs,Cr,A6,A7,B9,Av,Ap,Al,B7,B5,Af,Am,Ao,Co,Ay,A2,Ad,Ac,argW,List.map_cons,List.map_nil,List.getD_cons_zero,List.getD_cons_succ,decide_eq_true_eq,Nat.reduceLT,Nat.reduceEqDiff,true_and,and_true,Cc,↓reduceIte,reduceCtorEq,Int.toNat_natCast,Int.natCast_nonneg,Nat.zero_add,L.p.injEq,PV.bool.injEq,Bool.false_eq_true,Bool.true_and,Bool.and_true,Bool.or_false,Bool.or_true,Hi])
 (repeat' (first | (refine iteI (fun h=>?_) (fun h=>?_))|(refine B1 (by first | omega | (simp (disch:=omega) only [Aa,Ak,Ai] at *;omega)) ?_;intro b hb)|(refine And.intro (by first | omega | (simp (disch:=omega) only [Aa,Ak,Ai] at *;omega)) ?_)|((first | (refine Ba hm (by rfl) (by kernel_rfl) ?_));simp only [Dh])|(exact True.intro)|(exfalso;omega)))
 all_goals (rw [Bool.eq_iff_iff];simp [ct];omega)
theorem ct_lt {s:List UInt8} {k:Nat} (h:ct s k=true):k<s.length:=(Vp.1 h).1
theorem Jh5 (s:List UInt8) (i:Nat) (hs:s.length≤1000000) (hi:i<s.length):Det cx 117 [.p (.str s),.p (.int .i64 i)] [] (.p (.int .i64 (rlen s i))) []:=by
 have w1:=wi1 (i:=i) (by omega)
 have w2:=wi2 (i:=i) (by omega)
 have w3:=wi3 (i:=i) (by omega)
 have hA:=Nd s i
 have hB:=Nd s (i+1)
 skip
 (refine B2.of_code (X:=cx) false [] (by simp) Tryz.func117 (by kernel_rfl) rfl (by simp only [List.length_cons,List.length_nil,Tryz.ntmps117];decide) (by simp) ?_;refine Ax hm _ _ _ ?_;simp only [Tryz.ntmps117,Tryz.results117,Cb,Ah,Bm,Br,Ce,Cn,Ab,B3,Bk,Ea,Bd,A1,Da,Bc,D9,Bf,A0,Ch,Cw,Ca,A9,Aj,B8,D0,I7,Cg,Bq,C2,Dq,Db,Dn,Au,Bt,Ar,E8,Dm,Lc,Ib,Hf,Ag,Ae,A3,Cf,Bv,Bi,Bz,Bx,A4,B6,Bh,Az,A5,Bs,Cs,Cr,A6,A7,B9,Av,Ap,Al,B7,B5,Af,Am,Ao,Co,Ay,Cl,A2,Ad,Ac,argW,List.map_cons,List.map_nil,List.getD_cons_zero,List.getD_cons_succ,List.append_nil,List.flatMap_cons,List.flatMap_nil,decide_eq_true_eq,Nat.reduceLT,Nat.reduceEqDiff,true_and,and_true,Cc,Bw,↓reduceIte,reduceCtorEq,Int.toNat_natCast,Int.natCast_nonneg,Nat.zero_add,L.p.injEq,PV.int.injEq,Bool.false_eq_true,Bool.true_and,Bool.and_true,Bool.or_true,Hi,w1])
 (repeat' (first | (refine iteI (fun h=>?_) (fun h=>?_))|(refine B1 (by first | omega | (simp (disch:=omega) only [Aa,Ak,Ai] at *;omega)) ?_;intro b hb)|(refine And.intro (by first | omega | (simp (disch:=omega) only [Aa,Ak,Ai] at *;omega)) ?_)|((first | (refine Ba hm (by rfl) (by kernel_rfl) ?_)|(refine Det.use (Jrx s _ hs (by omega)) ?_)|(refine Det.useQ (Jrx s _ hs (by omega)) ?_));simp only [Cb,Ah,Bm,Br,Cn,Ab,B3,Bk,Ea,Bd,A1,Da,Bc,D9,Ct,Bf,A0,Ch,Cw,Ca,A9,Aj,B8,D0,I7,Cg,Bq,C2,Dq,Db,D1,J2,Dn,Au,Bt,Ar,E8,G0,Dm,Lc,Ib,Hf,Ag,Ae,A3,Cf,Bv,Bi,Bz,Bx,A4,Bp,B6,Bh,Az,A5,Bs,Cs,Cr,A6,A7,B9,Av,Ap,Al,B7,B5,Af,Am,Ao,Co,Ay,Cl,A2,Ad,Ac,List.map_cons,List.map_nil,List.getD_cons_zero,List.getD_cons_succ,List.append_nil,List.flatMap_cons,List.flatMap_nil,decide_eq_true_eq,beq_iff_eq,Nat.reduceLT,Nat.reduceEqDiff,true_and,and_true,Cc,Bw,↓reduceIte,reduceCtorEq,Int.toNat_natCast,Int.natCast_nonneg,L.p.injEq,PV.int.injEq,Bool.false_eq_true,Bool.true_and,Bool.and_true,Bool.or_true,Hi,w1,w2,w3])|(refine And.intro (ct_lt (by assumption)) ?_)|(exact True.intro)|(exfalso;omega)))
 all_goals (clear w1 w2 w3;unfold rlen;simp only [Vp] at *;(repeat' split) <;> omega)
end Go.LX
set_option maxRecDepth 100000
set_option maxHeartbeats 2000000
namespace Go.LX
open Go Go.RowKit Go.Proofs
attribute [local irreducible] B2 SWP Hb
def uF (s:List UInt8):Nat→Nat→Nat
 | 0,_=>s.length
 | f+1,i=>if i<s.length then (if rlen s i=0 then i else uF s f (i+rlen s i)) else s.length
def vF (s:List UInt8):Nat→Nat→Bool
 | 0,_=>true
 | f+1,i=>if i<s.length then (if rlen s i=0 then false else vF s f (i+rlen s i)) else true
def valid (s:List UInt8):Bool:=vF s (s.length+1) 0
theorem Rg (s:List UInt8) (hs:s.length≤1000000):Det cx 54 [.p (.str s)] [] (.p (.bool (valid s))) []:=by
 (refine B2.of_code (X:=cx) false [] (by simp) Tryz.func54 (by kernel_rfl) rfl (by simp only [List.length_cons,List.length_nil,Tryz.ntmps54];decide) (by simp) ?_;refine Ax hm _ _ _ ?_;simp only [Tryz.ntmps54,Tryz.results54,Ah,Bm,Ce,He,Ab,Bd,A1,Bc,A0,Cw,Ca,Aj,Ad,argW,List.map_cons,List.map_nil,Cc])
 refine SWP.loop (fun x:Nat×Nat=>⟨Fp 17 [(0,.p (.str s)),(3,.p (.int .i64 x.1))],[]⟩) (fun x=>x.1≤s.length∧s.length+1≤x.1+x.2∧vF s x.2 x.1=valid s) (fun x=>s.length - x.1) (0,s.length+1) (St.le_slots (by simp only [Cd,Ck,Ac,Be,Aq,Nat.reduceEqDiff,reduceIte,Nat.reduceLT,Nat.reduceLeDiff];simp (disch:=omega) [Aq,A8,Cm,Aa] <;> (repeat' apply And.intro) <;> omega) (by simp (disch:=omega) [Dc,Ee,C9,Bj,Aq,A8,Cm,Aa]) (by simp [De])) ⟨by simp,by simp,rfl⟩ ?_
 rintro ⟨i,f⟩ ⟨h1,h2,h3⟩
 simp only at h1 h2 h3
 obtain ⟨g,rfl⟩:∃ g,f=g+1:=⟨f - 1,by omega⟩
 have h4:=Yi s i
 have hw:=wia (i:=i) (j:=rlen s i) (by omega) (by omega)
 skip
 (refine Ax hm _ _ _ ?_;simp only [Cb,Ah,Bm,Br,Ce,Eh,Cn,Ab,Ci,B0,Bd,A1,Bc,Bf,A0,Ch,Cw,A9,Aj,B8,Dw,Cg,Bq,Au,Ar,Dm,Ds,Dl,Ag,Ae,A3,Cf,Bv,Bi,Bz,Bx,A4,B6,Bh,Az,A5,Bs,Cs,Cr,A6,A7,B9,Av,Ap,Al,B7,B5,Af,Am,Ao,Co,Ay,Cl,A2,Ad,Ac,Dy,List.map_cons,List.map_nil,List.append_nil,List.flatMap_cons,List.flatMap_nil,decide_eq_true_eq,Nat.reduceLT,Nat.reduceEqDiff,and_true,Cc,Bw,↓reduceIte,reduceCtorEq,L.p.injEq,PV.bool.injEq,Bool.and_true,Bool.or_false,Hi])
 (repeat' (first | (refine iteI (fun h=>?_) (fun h=>?_))|(refine B1 (by first | omega | (simp (disch:=omega) only [Aa,Ak,Ai] at *;omega)) ?_;intro b hb)|(refine And.intro (by first | omega | (simp (disch:=omega) only [Aa,Ak,Ai] at *;omega)) ?_)|((first | (refine Ba hm (by rfl) (by kernel_rfl) ?_)|(refine Det.use (Jh5 s i hs (by omega)) ?_)|(refine Det.useQ (Jh5 s i hs (by omega)) ?_));simp only [Cb,Ah,Bm,Br,Cn,Ab,B3,Bk,Ea,Bd,A1,Bc,Ct,Bf,A0,Cw,Ca,A9,Aj,B8,Bq,Au,Bt,Ar,E8,G0,Ag,Ae,A3,Bp,B6,Bs,Cs,Cr,A6,A7,B9,Av,Ap,Al,B7,B5,Af,Am,Ao,Co,Ay,A2,Ad,Ac,Dy,List.map_cons,List.map_nil,beq_iff_eq,Nat.reduceLT,Nat.reduceEqDiff,and_true,Cc,↓reduceIte,reduceCtorEq,L.p.injEq,PV.bool.injEq,Bool.and_true,Bool.or_false,Bool.or_true,hw])|(exact True.intro)|(exfalso;omega)))
 ·rw [← h3,vF,if_pos (by omega),if_pos (by omega)]
 ·have:=Wg s i (by omega)
  exact ⟨(i+rlen s i,g),⟨by simp only;omega,by simp only;omega,by simp only;rw [← h3,vF,if_pos (by omega),if_neg (by omega)]⟩,by simp only;omega,(St.le_slots (by simp only [Cd,Ck,Ac,Be,Aq,Nat.reduceEqDiff,reduceIte,Nat.reduceLT,Nat.reduceLeDiff];simp (disch:=omega) [Aq,A8,Cm,Aa] <;> (repeat' apply And.intro) <;> omega) (by simp (disch:=omega) [Dc,Ee,C9,Bj,Aq,A8,Cm,Aa]) (by simp [De]))⟩
 ·rw [← h3,vF,if_neg (by omega)]
theorem Jpv (n:Nat) (h:n<16):Det cx 190 [.p (.int .i64 n)] [] (.p (.str [hexd n])) []:=by
 skip
 (refine B2.of_code (X:=cx) false [] (by simp) Tryz.func190 (by kernel_rfl) rfl (by simp only [List.length_cons,List.length_nil,Tryz.ntmps190];decide) (by simp) ?_;refine Ax hm _ _ _ ?_;simp only [Tryz.ntmps190,Tryz.results190,Ah,Bm,Cn,Ab,Bd,A1,Bc,Bf,A0,Ca,F6,A9,Aj,B8,E7,Au,Bt,Ar,E8,D5,E2,La,Gf,Ag,Ae,A3,Bs,Cs,Cr,A6,A7,B9,Av,Ap,Al,B7,B5,Af,Am,Ao,Co,Ay,A2,Ad,Ac,argW,List.map_cons,List.map_nil,List.length_cons,List.length_nil,Nat.reduceLT,Nat.reduceEqDiff,Nat.reduceAdd,true_and,and_true,Cc,↓reduceIte,reduceCtorEq,Int.toNat_natCast,Int.natCast_nonneg,Nat.zero_add,L.p.injEq,PV.str.injEq,Bool.true_and,Bool.and_true,Bool.or_true,Hi,wi1 (i:=n) (by omega)])
 (repeat' (first | (refine iteI (fun h=>?_) (fun h=>?_))|(refine B1 (by first | omega | (simp (disch:=omega) only [Aa,Ak,Ai] at *;omega)) ?_;intro b hb)|(refine And.intro (by first | omega | (simp (disch:=omega) only [Aa,Ak,Ai] at *;omega)) ?_)|((first | (refine Ba hm (by rfl) (by kernel_rfl) ?_));simp only [Dh])|(exact True.intro)|(exfalso;omega)))
 have key:∀ m:Fin 16,List.take (m.val+1 - m.val) (List.drop m.val [48,49,50,51,52,53,54,55,56,57,97,98,99,100,101,102])=[hexd m.val]:=by decide
 exact key ⟨n,h⟩
def wr (c:Nat):List UInt8 :=
 if c=34 then [92,34] else if c=92 then [92,92] else if c=8 then [92,98] else if c=12 then [92,102] else if c=10 then [92,110] else if c=13 then [92,114] else if c=9 then [92,116]
 else if c<32 then [92,117,48,48,hexd (c / 16),hexd (c % 16)] else [UInt8.ofNat c]
theorem td16 {c:Nat} (h:c≤3000000):IntKind.i64.wrap ((c:Int).tdiv 16)=((c / 16:Nat):Int):=by
 rw [Int.tdiv_eq_ediv_of_nonneg (by omega),Aa (by omega) (by omega)];omega
theorem tm16 {c:Nat}:(c:Int).tmod 16=((c % 16:Nat):Int):=by
 rw [Int.tmod_eq_emod_of_nonneg (by omega)];omega
theorem wi0 {c:Nat} (h:c≤3000000):IntKind.i64.wrap (c:Int)=(c:Int):=Aa (by omega) (by omega)
theorem Jfz {c:Nat} (h:c≤255) {bs:List UInt8}:Y4 (c:Int) (some bs)=some (UInt8.ofNat c :: bs):=by
 simp only [Y4]
 rw [if_pos (by omega)]
 rfl
theorem Jf0 (c:Nat) (hc:c≤255):Det cx 120 [.p (.int .u8 c)] [] (.p (.str (wr c))) []:=by
 skip
 (refine B2.of_code (X:=cx) false [] (by simp) Tryz.func120 (by kernel_rfl) rfl (by simp only [List.length_cons,List.length_nil,Tryz.ntmps120];decide) (by simp) ?_;refine Ax hm _ _ _ ?_;simp only [Tryz.ntmps120,Tryz.results120,Cb,Ah,Bm,Br,Ce,Cn,Ab,B3,Bk,Ea,Bd,A1,Bc,Ct,Bf,A0,Ch,Ca,F6,A9,Aj,B8,Kb,Df,Cg,Bo,Bq,Au,Bt,Ar,Jon,G0,Dm,Xk,L4,Hz,S8,Kl,Hn,Ms,Nf,Ly,Cu,Ma,Ag,Ae,A3,E6,Fu,En,F4,Cf,Bv,Bi,Bz,Bx,A4,B6,Bh,Az,A5,Ht,Ji,Il,Dg,Jg,Gp,Gr,Gs,Gu,Hu,Ho,Bs,Cs,Cr,A6,A7,B9,Av,Ap,Al,B7,B5,Af,Am,Ao,Co,Ay,Aw,B4,Dx,Dk,Ez,I9,G9,Cl,C7,El,Cz,F1,A2,Ad,Ac,Bn,C6,Bg,Bb,argW,List.map_cons,List.map_nil,List.length_cons,List.length_nil,List.append_nil,List.flatMap_cons,List.flatMap_nil,List.take_succ_cons,List.take_nil,List.drop_zero,decide_eq_true_eq,beq_iff_eq,ne_eq,not_false_eq_true,Nat.reduceLT,Nat.reduceLeDiff,Nat.reduceEqDiff,Nat.reduceMul,Int.reduceEq,true_and,and_true,Cc,Bw,↓reduceIte,reduceCtorEq,Nat.zero_add,L.p.injEq,PV.str.injEq,Bool.true_and,Bool.and_true,Bool.or_true,beq_self_eq_true,Uq,Qs,Jac,Hi,Qu,Pq,td16 (c:=c) (by omega),wi0 (c:=c) (by omega),Jfz hc])
 (repeat' (first | (refine iteI (fun h=>?_) (fun h=>?_))|(refine B1 (by first | omega | (simp (disch:=omega) only [Aa,Ak,Ai] at *;omega)) ?_;intro b hb)|(refine And.intro (by first | omega | (simp (disch:=omega) only [Aa,Ak,Ai] at *;omega)) ?_)|((first | (refine Ba hm (by rfl) (by kernel_rfl) ?_)|(refine Det.use (Jpv (c / 16) (by omega)) ?_)|(refine Det.useQ (Jpv (c / 16) (by omega)) ?_)|(refine Det.use (Jpv (c % 16) (by omega)) ?_)|(refine Det.useQ (Jpv (c % 16) (by omega)) ?_));simp only [Cn,Ab,B3,Bd,A1,Bc,Ct,Bf,A0,Ch,Ca,F6,A9,Aj,B8,Kb,Cg,Au,Ep,Bt,Ar,Jk3,Mo,L4,Hz,Kl,Hn,Ag,Ae,A3,Cf,Bv,Bi,Bz,Bx,A4,Bp,B6,Bh,Az,A5,Bs,Cs,Cr,A6,A7,B9,Av,Ap,Al,B7,B5,Af,Am,Ao,Co,Ay,Cl,A2,Ad,Ac,List.map_cons,List.map_nil,List.length_cons,List.length_nil,List.cons_append,List.nil_append,List.append_nil,List.flatMap_cons,List.flatMap_nil,ne_eq,not_false_eq_true,Nat.reduceLT,Nat.reduceLeDiff,Nat.reduceEqDiff,Nat.reduceAdd,Int.reduceEq,true_and,and_true,Cc,Bw,↓reduceIte,reduceCtorEq,Nat.zero_add,L.p.injEq,PV.str.injEq,Bool.true_and,Bool.and_true,Bool.or_false,Bool.or_true,Uq,Qs,td16 (c:=c) (by omega),tm16,wi0 (c:=c) (by omega),Jfz hc])|(exact True.intro)|(exfalso;omega)))
 all_goals (unfold wr;(repeat' split) <;> first | rfl | (exfalso;omega))
end Go.LX
set_option maxRecDepth 100000
set_option maxHeartbeats 2000000
namespace Go.LX
open Go Go.RowKit Go.Proofs
attribute [local irreducible] B2 SWP Hb
theorem Jat (n:Int) (h0:-9223372036854775808≤n) (h1:n≤9223372036854775807):Det cx 113 [.p (.int .i64 n)] [] (.p (.str (Lib.itoa n))) []:=by
 refine Det.of_below (v:=.string ⟨⟨Lib.itoa n⟩⟩) (enters_of Tryz.func113 (by kernel_rfl) rfl) rfl (fun β w Im=>PRep.str _) fun β Im w vs hg hf=>?_
 obtain ⟨v,rfl,hv⟩:=fit1 hf
 have:=Yc hv;subst this
 refine (Tryz.strconv_Itoa n h0 h1 w (Jnf hg).pow).mono fun e w' ⟨h,k,os,hw⟩=>⟨h,?_⟩
 subst hw
 exact ⟨rfl,rfl,rfl,by show w.heap.size≤(w.heap ++ os).size;rw [Array.size_append];omega,fun _ hj=>Sort.heap_grow_old (w.drewN k) os hj⟩
def Jek (s:List UInt8):L:=match Lib.atoiAll s with
 | .ok v=>.tup [.int .i64 v,.nifc]
 | .range=>.tup [.int .i64 (Lib.atoiSat s),.ifc]
 | _=>.tup [.int .i64 0,.ifc]
theorem tupP {β:Env} {w:World} {Im:Nat→Prop} {a b:Value} {x y:PV} (h1:PRep w Im a x) (h2:PRep w Im b y):LRep β w Im (.tuple #[a,b]) (.tup [x,y]) :=
 ⟨[
  a,b],rfl,rfl,fun i v p hi hp=>by
  match i,hi,hp with
  | 0,hi,hp=>simp at hi hp;subst hi;subst hp;exact h1
  | 1,hi,hp=>simp at hi hp;subst hi;subst hp;exact h2
  | i+2,hi,hp=>simp at hi⟩
theorem Jjb (s:List UInt8) (hs:s.length≤1000000):Det cx 112 [.p (.str s)] [] (Jek s) []:=by
 refine Det.of_belowE (enters_of Tryz.func112 (by kernel_rfl) rfl) fun β Im w vs hg hf=>?_
 obtain ⟨v,rfl,h1⟩:=fit1 hf
 cases V7 h1
 unfold Jek
 cases ha:Lib.atoiAll s with
 | ok n =>
  refine (Tryz.strconv_Atoi_ok ⟨⟨s⟩⟩ (by show s.length≤_;omega) n ha w).mono fun e w' ⟨h,hw⟩=>⟨⟨_,h,fun β w Im=>tupP (.int _ _) .nifc⟩,?_⟩
  rcases hw with rfl | ⟨u,rfl⟩
  ·exact Below.refl _ _
  ·exact Lib.bytesWorld_below _ _ _
 | range =>
  obtain ⟨te,pe,he⟩:=(Jnf hg).rng
  exact (Tryz.strconv_Atoi_range ⟨⟨s⟩⟩ (Nat.le_trans hs (by decide)) ha _ w he (.inr ⟨te,pe,rfl⟩)).mono fun e w' ⟨N,h,_,_,hb⟩=>⟨⟨_,h,fun β w Im=>tupP (.int _ _) (.ifc _ _)⟩,hb⟩
 | _ =>
  obtain ⟨te,pe,he⟩:=(Jnf hg).syn
  exact (Any.strconv_Atoi_syntax Tryz.laysC172 ⟨⟨s⟩⟩ (Nat.le_trans hs (by decide)) ha _ w he (.inr ⟨te,pe,rfl⟩)).mono fun e w' ⟨N,h,_,_,hb⟩=>⟨⟨_,h,fun β w Im=>tupP (.int _ _) (.ifc _ _)⟩,hb⟩
theorem Jcp (s:List UInt8) (hs:s.length≤9223372036854775807):Det cx 52 [.p (.str s)] [] (.p (.bool (Lib.validD s))) []:=by
 refine Det.of_below (v:=.bool (Lib.validD s)) (enters_of Tryz.func52 (by kernel_rfl) rfl) rfl (fun _ _ _=>.bool _) fun β Im w vs hg hf=>?_
 obtain ⟨v,rfl,h1⟩:=fit1 hf
 cases V7 h1
 exact Any.utf8_ValidString Tryz.lays196 ⟨⟨s⟩⟩ w hs (Jnf hg).tabs
theorem Jlg (s:List UInt8) (i:Nat):Lib.decodeL (s.drop i)=dec s i:=by
 show dec (s.drop i) 0=dec s i
 rw [Jed,Nat.add_zero]
theorem Jgo:∀ (f:Nat) (s:List UInt8) (i:Nat),s.length<i+f→vF s f i=Lib.validD (s.drop i)
 | 0,s,i,h=>by rw [List.drop_eq_nil_of_le (by omega)];rfl
 | f+1,s,i,h=>by
  rw [vF]
  by_cases hi:i<s.length
  ·rw [if_pos hi]
   have hne:s.drop i≠[]:=fun e=>by have:=congrArg List.length e;simp at this;omega
   rw [Lib.validD_step _ hne,Jlg,Qd]
   by_cases hr:rlen s i=0
   ·rw [if_pos hr,if_pos hr,if_pos ⟨rfl,rfl⟩]
   ·rw [if_neg hr,if_neg hr]
    have hc:¬ (code s i=65533∧rlen s i=1):=fun ⟨c1,c2⟩=>by
     rcases Py s i with e | ⟨e,g⟩ | ⟨e,_⟩ | ⟨e,_⟩ | ⟨e,_⟩
     ·exact hr e
     ·have:code s i=at_ s i:=by unfold code;rw [if_pos g]
      omega
     ·omega
     ·omega
     ·omega
    rw [if_neg hc,List.drop_drop]
    exact Jgo f s _ (by omega)
  ·rw [if_neg hi,List.drop_eq_nil_of_le (by omega)];rfl
theorem P6 (s:List UInt8) (hs:s.length≤9223372036854775807):Det cx 52 [.p (.str s)] [] (.p (.bool (valid s))) []:=by
 have h:=Jcp s hs
 have e:Lib.validD s=valid s:=by unfold valid;rw [Jgo _ s 0 (by omega),List.drop_zero]
 rw [e] at h
 exact h
end Go.LX
set_option maxRecDepth 100000
set_option maxHeartbeats 2000000
namespace Go.LX
open Go Go.RowKit Go.Proofs
attribute [local irreducible] B2 SWP Hb
def letP (c:Nat):Prop:=(97≤c∧c≤122)∨(65≤c∧c≤90)∨c=95
instance (c:Nat):Decidable (letP c):=inferInstanceAs (Decidable (_∨_))
def figP (c:Nat):Prop:=48≤c∧c≤57
instance (c:Nat):Decidable (figP c):=inferInstanceAs (Decidable (_∧_))
def wF (s:List UInt8):Nat→Nat→Nat
 | 0,i=>i
 | f+1,i=>if i<s.length∧(letP (at_ s i)∨(0<i∧figP (at_ s i))) then wF s f (i+1) else i
def Kw (s:List UInt8):Nat:=wF s (s.length+1) 0
def isWd (s:List UInt8):Prop:=s≠[]∧Kw s=s.length
instance (s:List UInt8):Decidable (isWd s):=inferInstanceAs (Decidable (_∧_))
theorem wF_le (s:List UInt8):∀ f i,i≤s.length→i≤wF s f i∧wF s f i≤s.length
 | 0,i,h=>⟨Nat.le_refl _,h⟩
 | f+1,i,h=>by
  rw [wF]
  split
  ·have:=wF_le s f (i+1) (by omega);omega
  ·exact ⟨Nat.le_refl _,h⟩
theorem Sz (s:List UInt8):Kw s≤s.length:=(wF_le s _ 0 (Nat.zero_le _)).2
theorem Jda (c:Nat):Det cx 174 [.p (.int .u8 c)] [] (.p (.bool (decide (letP c)))) []:=by
 (refine B2.of_code (X:=cx) false [] (by simp) Tryz.func174 (by kernel_rfl) rfl (by simp only [List.length_cons,List.length_nil,Tryz.ntmps174];decide) (by simp) ?_;refine Ax hm _ _ _ ?_;simp only [Tryz.ntmps174,Tryz.results174,Ah,Bm,Cn,Ab,Bd,A1,Da,Bc,D9,Bf,A0,Cw,Ca,A9,Aj,B8,D0,C2,Dq,Db,D1,J2,Dn,Au,Bt,Ar,G0,Pr,Lc,Ag,Ae,A3,Bs,Cs,Cr,A6,A7,B9,Av,Ap,Al,B7,B5,Af,Am,Ao,Co,Ay,A2,Ad,Ac,argW,List.map_cons,List.map_nil,List.getD_cons_zero,List.getD_cons_succ,decide_eq_true_eq,Nat.reduceLT,Nat.reduceEqDiff,and_true,Cc,↓reduceIte,reduceCtorEq,L.p.injEq,PV.bool.injEq,Bool.false_eq_true,Bool.and_true,Bool.or_true])
 (repeat' (first | (refine iteI (fun h=>?_) (fun h=>?_))|(refine B1 (by first | omega | (simp (disch:=omega) only [Aa,Ak,Ai] at *;omega)) ?_;intro b hb)|(refine And.intro (by first | omega | (simp (disch:=omega) only [Aa,Ak,Ai] at *;omega)) ?_)|((first | (refine Ba hm (by rfl) (by kernel_rfl) ?_));simp only [Dh])|(exact True.intro)|(exfalso;omega)))
 all_goals first | exact decide_eq_decide.2 (by unfold letP;omega) | exact (decide_eq_false (by unfold letP;omega)).symm | exact (decide_eq_true (by unfold letP;omega)).symm
theorem Jee (c:Nat):Det cx 175 [.p (.int .u8 c)] [] (.p (.bool (decide (figP c)))) []:=by
 (refine B2.of_code (X:=cx) false [] (by simp) Tryz.func175 (by kernel_rfl) rfl (by simp only [List.length_cons,List.length_nil,Tryz.ntmps175];decide) (by simp) ?_;refine Ax hm _ _ _ ?_;simp only [Tryz.ntmps175,Tryz.results175,Ah,Bm,Cn,Ab,Bd,A1,Da,Bc,D9,Bf,A0,Cw,Ca,A9,Aj,B8,D0,C2,Dq,Db,Dn,Au,Bt,Ar,Pr,Lc,Ag,Ae,A3,Bs,Cs,Cr,A6,A7,B9,Av,Ap,Al,B7,B5,Af,Am,Ao,Co,Ay,A2,Ad,Ac,argW,List.map_cons,List.map_nil,List.getD_cons_zero,List.getD_cons_succ,decide_eq_true_eq,Nat.reduceLT,Nat.reduceEqDiff,and_true,Cc,↓reduceIte,reduceCtorEq,L.p.injEq,PV.bool.injEq,Bool.false_eq_true,Bool.and_true,Bool.or_true])
 (repeat' (first | (refine iteI (fun h=>?_) (fun h=>?_))|(refine B1 (by first | omega | (simp (disch:=omega) only [Aa,Ak,Ai] at *;omega)) ?_;intro b hb)|(refine And.intro (by first | omega | (simp (disch:=omega) only [Aa,Ak,Ai] at *;omega)) ?_)|((first | (refine Ba hm (by rfl) (by kernel_rfl) ?_));simp only [Dh])|(exact True.intro)|(exfalso;omega)))
 all_goals first | exact decide_eq_decide.2 (by unfold figP;omega) | exact (decide_eq_false (by unfold figP;omega)).symm | exact (decide_eq_true (by unfold figP;omega)).symm
theorem Jah (s:List UInt8) (hs:s.length≤1000000):Det cx 106 [.p (.str s)] [] (.p (.int .i64 (Kw s))) []:=by
 (refine B2.of_code (X:=cx) false [] (by simp) Tryz.func106 (by kernel_rfl) rfl (by simp only [List.length_cons,List.length_nil,Tryz.ntmps106];decide) (by simp) ?_;refine Ax hm _ _ _ ?_;simp only [Tryz.ntmps106,Tryz.results106,Ah,Bm,Ce,He,Ab,Bd,A1,Bc,A0,Ca,Aj,Ad,argW,List.map_cons,List.map_nil,Cc])
 refine SWP.loop (fun x:Nat×Nat=>⟨Fp 27 [(0,.p (.str s)),(3,.p (.int .i64 x.1))],[]⟩) (fun x=>x.1≤s.length∧s.length+1≤x.1+x.2∧wF s x.2 x.1=Kw s) (fun x=>s.length - x.1) (0,s.length+1) (St.le_slots (by simp only [Cd,Ck,Ac,Be,Aq,Nat.reduceEqDiff,reduceIte,Nat.reduceLT,Nat.reduceLeDiff];simp (disch:=omega) [Aq,A8,Cm,Aa] <;> (repeat' apply And.intro) <;> omega) (by simp (disch:=omega) [Dc,Ee,C9,Bj,Aq,A8,Cm,Aa]) (by simp [De])) ⟨by simp,by simp,rfl⟩ ?_
 rintro ⟨i,f⟩ ⟨h1,h2,h3⟩
 simp only at h1 h2 h3
 obtain ⟨g,rfl⟩:∃ g,f=g+1:=⟨f - 1,by omega⟩
 rw [wF] at h3
 skip
 (refine Ax hm _ _ _ ?_;simp only [Ah,Bm,Br,Eh,Cn,Ab,Ci,B0,Bd,A1,Da,Bc,D9,Bf,A0,Ch,Cw,A9,Aj,B8,D0,I7,Dw,Cg,Bq,C2,Dq,Db,J2,Dn,Au,Ar,Dm,Ds,Dl,Ib,Hf,Ag,Ae,A3,Cf,Bv,Bi,Bz,Bx,A4,B6,Bh,Az,A5,Bs,Cs,Cr,A6,A7,B9,Av,Ap,Al,B7,B5,Af,Am,Ao,Co,Ay,Cl,A2,Ad,Ac,Dy,List.map_cons,List.map_nil,List.getD_cons_zero,List.getD_cons_succ,List.append_nil,List.flatMap_cons,List.flatMap_nil,decide_eq_true_eq,Nat.reduceLT,Nat.reduceEqDiff,true_and,and_true,Cc,Bw,↓reduceIte,reduceCtorEq,Int.toNat_natCast,Int.natCast_nonneg,L.p.injEq,PV.int.injEq,Bool.false_eq_true,Bool.true_and,Bool.and_true,Bool.or_false,Hi,wi1 (i:=i) (by omega)])
 (repeat' (first | (refine iteI (fun h=>?_) (fun h=>?_))|(refine B1 (by first | omega | (simp (disch:=omega) only [Aa,Ak,Ai] at *;omega)) ?_;intro b hb)|(refine And.intro (by first | omega | (simp (disch:=omega) only [Aa,Ak,Ai] at *;omega)) ?_)|((first | (refine Ba hm (by rfl) (by kernel_rfl) ?_)|(refine Det.use (Jda _) ?_)|(refine Det.useQ (Jda _) ?_)|(refine Det.use (Jee _) ?_)|(refine Det.useQ (Jee _) ?_));simp only [Cb,Ah,Bm,Br,Ce,Eh,Cn,Ab,Ci,Bk,B0,Bd,A1,Da,Bc,D9,Ct,Bf,A0,Ch,Cw,Ca,A9,Aj,B8,D0,I7,Cg,Bq,C2,Dq,Db,D1,J2,Dn,Au,Bt,Ar,E8,Je,Ib,Hf,Ag,Ae,A3,Cf,Bv,Bi,Bz,Bx,A4,Bp,B6,Bh,Az,A5,Bs,Cs,Cr,A6,A7,B9,Av,Ap,Al,B7,B5,Af,Am,Ao,Co,Ay,Cl,A2,Ad,Ac,Dy,List.map_cons,List.map_nil,List.getD_cons_zero,List.getD_cons_succ,List.append_nil,List.flatMap_cons,List.flatMap_nil,decide_eq_true_eq,Nat.reduceLT,Nat.reduceEqDiff,true_and,and_true,Cc,Bw,↓reduceIte,reduceCtorEq,Int.toNat_natCast,Int.natCast_nonneg,L.p.injEq,PV.int.injEq,Bool.false_eq_true,Bool.true_and,Bool.and_true,Bool.or_true,Hi,wi1 (i:=i) (by omega)])|(exact True.intro)|(exfalso;omega)))
 all_goals first
  | exact ⟨(i+1,g),⟨by simp only;omega,by simp only;omega,by simp only;rw [← h3,if_pos ⟨by omega,.inl (by assumption)⟩]⟩,by simp only;omega,(St.le_slots (by simp only [Cd,Ck,Ac,Be,Aq,Nat.reduceEqDiff,reduceIte,Nat.reduceLT,Nat.reduceLeDiff];simp (disch:=omega) [Aq,A8,Cm,Aa] <;> (repeat' apply And.intro) <;> omega) (by simp (disch:=omega) [Dc,Ee,C9,Bj,Aq,A8,Cm,Aa]) (by simp [De]))⟩
  | exact ⟨(i+1,g),⟨by simp only;omega,by simp only;omega,by simp only;rw [← h3,if_pos ⟨by omega,.inr ⟨by omega,by assumption⟩⟩]⟩,by simp only;omega,(St.le_slots (by simp only [Cd,Ck,Ac,Be,Aq,Nat.reduceEqDiff,reduceIte,Nat.reduceLT,Nat.reduceLeDiff];simp (disch:=omega) [Aq,A8,Cm,Aa] <;> (repeat' apply And.intro) <;> omega) (by simp (disch:=omega) [Dc,Ee,C9,Bj,Aq,A8,Cm,Aa]) (by simp [De]))⟩
  | (rw [← h3,if_neg (fun hc=>by
    obtain ⟨c1,c2⟩:=hc
    rcases c2 with c2 | ⟨c3,c2⟩
    ·first | (exfalso;omega) | contradiction
    ·first | (exfalso;omega) | contradiction)])
theorem Oa (s:List UInt8) (hs:s.length≤1000000):Det cx 108 [.p (.str s)] [] (.p (.bool (decide (isWd s)))) []:=by
 (refine B2.of_code (X:=cx) false [] (by simp) Tryz.func108 (by kernel_rfl) rfl (by simp only [List.length_cons,List.length_nil,Tryz.ntmps108];decide) (by simp) ?_;refine Ax hm _ _ _ ?_;simp only [Tryz.ntmps108,Tryz.results108,Ah,Bm,Cn,Ab,Bd,A1,Da,Bc,D9,Bf,A0,Ch,Cw,F6,A9,Aj,B8,D0,Cg,C2,Dq,Db,Dn,Ep,Bt,Ar,Qv,Ag,Ae,A3,Cf,Bv,Bi,Bz,Bx,A4,B6,Bh,Az,A5,Bs,Cs,Cr,A6,A7,B9,Av,Ap,Al,B7,B5,Af,Am,Ao,Co,Ay,Cl,A2,Ad,Ac,argW,List.map_cons,List.map_nil,List.getD_cons_zero,List.getD_cons_succ,List.append_nil,List.flatMap_cons,List.flatMap_nil,beq_eq_false_iff_ne,Bool.not_eq_eq_eq_not,ne_eq,Nat.reduceLT,Nat.reduceEqDiff,and_true,Cc,Bw,↓reduceIte,reduceCtorEq,Ai,Bool.not_true,L.p.injEq,PV.bool.injEq,Bool.false_eq_true,Bool.and_true,Bool.or_true])
 (repeat' (first | (refine iteI (fun h=>?_) (fun h=>?_))|(refine B1 (by first | omega | (simp (disch:=omega) only [Aa,Ak,Ai] at *;omega)) ?_;intro b hb)|(refine And.intro (by first | omega | (simp (disch:=omega) only [Aa,Ak,Ai] at *;omega)) ?_)|((first | (refine Ba hm (by rfl) (by kernel_rfl) ?_)|(refine Det.use (Jah s hs) ?_)|(refine Det.useQ (Jah s hs) ?_));simp only [Cn,Ab,Bd,A1,Da,Bc,Ct,Bf,A0,Cw,A9,Aj,B8,D0,Dw,C2,Dq,Db,Dn,Au,Ar,G0,Ds,Dl,Ag,Ae,A3,Bp,B6,Bs,Cs,Cr,A6,A7,B9,Av,Ap,Al,B7,B5,Af,Am,Ao,Co,Ay,A2,Ad,Ac,List.getD_cons_zero,List.getD_cons_succ,Nat.reduceLT,Nat.reduceEqDiff,and_true,Cc,↓reduceIte,reduceCtorEq,L.p.injEq,PV.bool.injEq,Bool.and_true,Bool.or_false,Hi])|(exact True.intro)|(exfalso;omega)))
 ·have hne:s≠[]:=fun e=>by subst e;simp at *
  rw [Bool.eq_iff_iff,beq_iff_eq,decide_eq_true_eq]
  exact ⟨fun h=>⟨hne,by omega⟩,fun h=>by have:=h.2;omega⟩
 ·exact (decide_eq_false (fun h=>h.1 (List.eq_nil_of_length_eq_zero (by omega)))).symm
theorem K1 (s:List UInt8) (hs:s.length≤1000000):Det cx 57 [.p (.str s)] [] (.p (.bool (decide (isWd s)))) []:=by
 (refine B2.of_code (X:=cx) false [] (by simp) Tryz.func57 (by kernel_rfl) rfl (by simp only [List.length_cons,List.length_nil,Tryz.ntmps57];decide) (by simp) ?_;refine Ax hm _ _ _ ?_;simp only [Tryz.ntmps57,Tryz.results57,Ah,Bm,Ce,He,Ab,Bd,A1,Bc,A0,Cw,Ca,Aj,Ad,argW,List.map_cons,List.map_nil,Cc])
 refine SWP.loop (fun x:Nat×Nat=>⟨Fp 49 [(0,.p (.str s)),(3,.p (.int .i64 x.1))],[]⟩) (fun x=>x.1≤s.length∧s.length+1≤x.1+x.2∧wF s x.2 x.1=Kw s) (fun x=>s.length - x.1) (0,s.length+1) (St.le_slots (by simp only [Cd,Ck,Ac,Be,Aq,Nat.reduceEqDiff,reduceIte,Nat.reduceLT,Nat.reduceLeDiff];simp (disch:=omega) [Aq,A8,Cm,Aa] <;> (repeat' apply And.intro) <;> omega) (by simp (disch:=omega) [Dc,Ee,C9,Bj,Aq,A8,Cm,Aa]) (by simp [De])) ⟨by simp,by simp,rfl⟩ ?_
 rintro ⟨i,f⟩ ⟨h1,h2,h3⟩
 simp only at h1 h2 h3
 obtain ⟨g,rfl⟩:∃ g,f=g+1:=⟨f - 1,by omega⟩
 rw [wF] at h3
 skip
 (refine Ax hm _ _ _ ?_;simp only [Cb,Ah,Bm,Br,Ce,Eh,Cn,Ab,Ci,B3,Bk,B0,Ea,Bd,A1,Da,Bc,D9,Bf,A0,Cw,Ca,F6,A9,Aj,B8,N7,D0,I7,Dw,Bq,C2,Dq,Db,D1,J2,Dn,Au,Ep,Bt,Ar,E8,G0,Dm,Pr,Je,Lc,Qv,J7,Ds,Dl,Ib,Hf,Ag,Ae,A3,Bs,Cs,Cr,A6,A7,B9,Av,Ap,Al,B7,B5,Af,Am,Ao,Co,Ay,A2,Ad,Ac,Dy,List.map_cons,List.map_nil,List.getD_cons_zero,List.getD_cons_succ,decide_eq_true_eq,beq_iff_eq,beq_eq_false_iff_ne,Bool.not_eq_eq_eq_not,ne_eq,Nat.reduceLT,Nat.reduceEqDiff,true_and,and_true,Cc,↓reduceIte,reduceCtorEq,Int.toNat_natCast,Int.natCast_nonneg,Bool.not_true,L.p.injEq,PV.bool.injEq,Bool.false_eq_true,Bool.true_and,Bool.and_true,Bool.or_false,Bool.or_true,Hi,wi1 (i:=i) (by omega)])
 (repeat' (first | (refine iteI (fun h=>?_) (fun h=>?_))|(refine B1 (by first | omega | (simp (disch:=omega) only [Aa,Ak,Ai] at *;omega)) ?_;intro b hb)|(refine And.intro (by first | omega | (simp (disch:=omega) only [Aa,Ak,Ai] at *;omega)) ?_)|((first | (refine Ba hm (by rfl) (by kernel_rfl) ?_));simp only [Dh])|(exact True.intro)|(exfalso;omega)))
 all_goals first
  | exact ⟨(i+1,g),⟨by simp only;omega,by simp only;omega,by simp only;rw [← h3,if_pos ⟨by omega,by unfold letP figP;omega⟩]⟩,by simp only;omega,(St.le_slots (by simp only [Cd,Ck,Ac,Be,Aq,Nat.reduceEqDiff,reduceIte,Nat.reduceLT,Nat.reduceLeDiff];simp (disch:=omega) [Aq,A8,Cm,Aa] <;> (repeat' apply And.intro) <;> omega) (by simp (disch:=omega) [Dc,Ee,C9,Bj,Aq,A8,Cm,Aa]) (by simp [De]))⟩
  | (
   have hc:¬ (i<s.length∧(letP (at_ s i)∨(0<i∧figP (at_ s i)))):=by unfold letP figP;omega
   rw [if_neg hc] at h3
   exact (decide_eq_false (fun hw=>by have:=hw.2;omega)).symm)
  | skip
 have hc:¬ (i<s.length∧(letP (at_ s i)∨(0<i∧figP (at_ s i)))):=fun h=>by have:=h.1;omega
 rw [if_neg hc] at h3
 have hwl:Kw s=s.length:=by omega
 cases s with
 | nil=>simp [isWd]
 | cons c t =>
  have:isWd (c :: t):=⟨by simp,hwl⟩
  simp [this]
end Go.LX
