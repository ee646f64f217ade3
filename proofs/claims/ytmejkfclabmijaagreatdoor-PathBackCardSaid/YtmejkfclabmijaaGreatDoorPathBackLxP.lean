/- Package quote, and what the document says: from below. -/
import Derived.Test.YtmejkfclabmijaaGreatDoorPathBackLxO
set_option linter.unusedSimpArgs false
set_option linter.unusedVariables false
set_option linter.unusedSectionVars false
set_option linter.unnecessarySimpa false
set_option maxRecDepth 100000
set_option maxHeartbeats 2000000
namespace Go.LX
open Go Go.RowKit Go.Proofs
attribute [local irreducible] Bz SWP Gm
def Ng:List (PV×PV):=[(.int .u8 34,.int .i32 34),(.int .u8 92,.int .i32 92),(.int .u8 47,.int .i32 47),(.int .u8 98,.int .i32 8),(.int .u8 102,.int .i32 12),(.int .u8 110,.int .i32 10),(.int .u8 114,.int .i32 13),(.int .u8 116,.int .i32 9)]
theorem mp0:mput (.int .u8 34) (.int .i32 34) []=some [(.int .u8 34,.int .i32 34)]:=rfl
theorem mp1:mput (.int .u8 92) (.int .i32 92) [(.int .u8 34,.int .i32 34)]=some [(.int .u8 34,.int .i32 34),(.int .u8 92,.int .i32 92)]:=rfl
theorem mp2:mput (.int .u8 47) (.int .i32 47) [(.int .u8 34,.int .i32 34),(.int .u8 92,.int .i32 92)]=some [(.int .u8 34,.int .i32 34),(.int .u8 92,.int .i32 92),(.int .u8 47,.int .i32 47)]:=rfl
theorem mp3:mput (.int .u8 98) (.int .i32 8) [(.int .u8 34,.int .i32 34),(.int .u8 92,.int .i32 92),(.int .u8 47,.int .i32 47)]=some [(.int .u8 34,.int .i32 34),(.int .u8 92,.int .i32 92),(.int .u8 47,.int .i32 47),(.int .u8 98,.int .i32 8)]:=rfl
theorem mp4:mput (.int .u8 102) (.int .i32 12) [(.int .u8 34,.int .i32 34),(.int .u8 92,.int .i32 92),(.int .u8 47,.int .i32 47),(.int .u8 98,.int .i32 8)]=some [(.int .u8 34,.int .i32 34),(.int .u8 92,.int .i32 92),(.int .u8 47,.int .i32 47),(.int .u8 98,.int .i32 8),(.int .u8 102,.int .i32 12)]:=rfl
theorem mp5:mput (.int .u8 110) (.int .i32 10) [(.int .u8 34,.int .i32 34),(.int .u8 92,.int .i32 92),(.int .u8 47,.int .i32 47),(.int .u8 98,.int .i32 8),(.int .u8 102,.int .i32 12)]=some [(.int .u8 34,.int .i32 34),(.int .u8 92,.int .i32 92),(.int .u8 47,.int .i32 47),(.int .u8 98,.int .i32 8),(.int .u8 102,.int .i32 12),(.int .u8 110,.int .i32 10)]:=rfl
theorem mp6:mput (.int .u8 114) (.int .i32 13) [(.int .u8 34,.int .i32 34),(.int .u8 92,.int .i32 92),(.int .u8 47,.int .i32 47),(.int .u8 98,.int .i32 8),(.int .u8 102,.int .i32 12),(.int .u8 110,.int .i32 10)]=some [(.int .u8 34,.int .i32 34),(.int .u8 92,.int .i32 92),(.int .u8 47,.int .i32 47),(.int .u8 98,.int .i32 8),(.int .u8 102,.int .i32 12),(.int .u8 110,.int .i32 10),(.int .u8 114,.int .i32 13)]:=rfl
theorem mp7:mput (.int .u8 116) (.int .i32 9) [(.int .u8 34,.int .i32 34),(.int .u8 92,.int .i32 92),(.int .u8 47,.int .i32 47),(.int .u8 98,.int .i32 8),(.int .u8 102,.int .i32 12),(.int .u8 110,.int .i32 10),(.int .u8 114,.int .i32 13)]=some [(.int .u8 34,.int .i32 34),(.int .u8 92,.int .i32 92),(.int .u8 47,.int .i32 47),(.int .u8 98,.int .i32 8),(.int .u8 102,.int .i32 12),(.int .u8 110,.int .i32 10),(.int .u8 114,.int .i32 13),(.int .u8 116,.int .i32 9)]:=rfl
theorem V0:Det cx 223 [] [] (.p (.mp Ng)) []:=by
 skip
 (refine Bz.of_code (X:=cx) false [] (by simp) Tryz.func223 (by kernel_rfl) rfl (by simp only [List.length_nil,Tryz.ntmps223];decide) (by simp) ?_;refine Ax hm _ _ _ ?_;simp only [Tryz.ntmps223,Tryz.results223,Ah,Bn,Cn,Ab,Bd,A0,Bb,Dd,Cs,Be,Az,Cb,Jmt,Ba,Ai,Ym,Jko,Bp,Cr,Ag,Ae,A3,Wp,Gq,Y2,Gs,Zr,Jna,Uj,Jq0,u_muT,u_muR,Oj,Lw,Bt,Cy,Cz,A7,A8,B9,Aw,Ao,Al,B5,B6,Af,Am,Ap,Cl,A1,Ar,B1,Cu,D8,Dv,E6,Jg,Jdv,A2,Ad,Ac,Bl,Dc,Bf,A6,argW,List.map_cons,List.map_nil,Nat.reduceLT,true_and,and_true,Ca,↓reduceIte,L.p.injEq,Bool.true_and,Bool.and_true,beq_self_eq_true,T8,Jh2,mp0,mp1,mp2,mp3,mp4,mp5,mp6,mp7])
 rfl
theorem wi1 {i:Nat} (h:i≤3000000):IntKind.i64.wrap ((i:Int)+1)=((i+1:Nat):Int):=by rw [Aa (by omega) (by omega)];omega
theorem wi2 {i:Nat} (h:i≤3000000):IntKind.i64.wrap ((i:Int)+2)=((i+2:Nat):Int):=by rw [Aa (by omega) (by omega)];omega
theorem wi3 {i:Nat} (h:i≤3000000):IntKind.i64.wrap ((i:Int)+3)=((i+3:Nat):Int):=by rw [Aa (by omega) (by omega)];omega
theorem wia {i j:Nat} (h:i≤3000000) (h2:j≤3000000):IntKind.i64.wrap ((i:Int)+(j:Int))=((i+j:Nat):Int):=by rw [Aa (by omega) (by omega)];omega
theorem d_cont (s:List UInt8) (i:Nat) (hs:s.length≤1000000) (hi:i≤2000000):Det cx 188 [.p (.str s),.p (.int .i64 i)] [] (.p (.bool (ct s i))) []:=by
 (refine Bz.of_code (X:=cx) false [] (by simp) Tryz.func188 (by kernel_rfl) rfl (by simp only [List.length_cons,List.length_nil,Tryz.ntmps188];decide) (by simp) ?_;refine Ax hm _ _ _ ?_;simp only [Tryz.ntmps188,Tryz.results188,Ah,Bn,Cn,Ab,Bd,A0,Dq,Bb,Ep,Be,Az,C0,Cb,Ba,Ai,B8,Em,Qe,Eg,C6,D6,Du,D4,Av,B0,Aq,D1,M2,D9,Fb,Nz,L8,Ag,Ae,A3,Bt,Cy,Cz,A7,A8,B9,Aw,Ao,Al,B5,B6,Af,Am,Ap,Cl,A1,A2,Ad,Ac,argW,List.map_cons,List.map_nil,List.getD_cons_zero,List.getD_cons_succ,decide_eq_true_eq,Nat.reduceLT,Nat.reduceEqDiff,true_and,and_true,Ca,↓reduceIte,reduceCtorEq,Int.toNat_natCast,Int.natCast_nonneg,Nat.zero_add,L.p.injEq,PV.bool.injEq,Bool.false_eq_true,Bool.true_and,Bool.and_true,Bool.or_false,Bool.or_true,Ja])
 (repeat' (first | (refine iteI (fun h=>?_) (fun h=>?_))|(refine B2 (by first | omega | (simp (disch:=omega) only [Aa,Ak,Aj] at *;omega)) ?_;intro b hb)|(refine And.intro (by first | omega | (simp (disch:=omega) only [Aa,Ak,Aj] at *;omega)) ?_)|((first | (refine A9 hm (by rfl) (by kernel_rfl) ?_));simp only [Dm])|(exact True.intro)|(exfalso;omega)))
 all_goals (rw [Bool.eq_iff_iff];simp [ct];omega)
theorem ct_lt {s:List UInt8} {k:Nat} (h:ct s k=true):k<s.length:=(Uo.1 h).1
theorem d_Rune (s:List UInt8) (i:Nat) (hs:s.length≤1000000) (hi:i<s.length):Det cx 117 [.p (.str s),.p (.int .i64 i)] [] (.p (.int .i64 (rlen s i))) []:=by
 have w1:=wi1 (i:=i) (by omega)
 have w2:=wi2 (i:=i) (by omega)
 have w3:=wi3 (i:=i) (by omega)
 have hA:=Pw s i
 have hB:=Pw s (i+1)
 skip
 (refine Bz.of_code (X:=cx) false [] (by simp) Tryz.func117 (by kernel_rfl) rfl (by simp only [List.length_cons,List.length_nil,Tryz.ntmps117];decide) (by simp) ?_;refine Ax hm _ _ _ ?_;simp only [Tryz.ntmps117,Tryz.results117,Ch,Ah,Bn,Bs,Ci,Cn,Ab,Cf,Bo,Ei,Bd,A0,Dq,Bb,Ep,Be,Az,Ce,C0,Cb,Ba,Ai,B8,Em,Qe,Cc,Br,C6,D6,Du,D4,Av,B0,Aq,Hb,D1,M2,Nz,L8,Ag,Ae,A3,Cd,Bv,Bm,Bx,Bw,A5,B3,Bi,Ay,A4,Bt,Cy,Cz,A7,A8,B9,Aw,Ao,Al,B5,B6,Af,Am,Ap,Cl,A1,Cj,A2,Ad,Ac,argW,List.map_cons,List.map_nil,List.getD_cons_zero,List.getD_cons_succ,List.append_nil,List.flatMap_cons,List.flatMap_nil,decide_eq_true_eq,Nat.reduceLT,Nat.reduceEqDiff,true_and,and_true,Ca,Bu,↓reduceIte,reduceCtorEq,Int.toNat_natCast,Int.natCast_nonneg,Nat.zero_add,L.p.injEq,PV.int.injEq,Bool.false_eq_true,Bool.true_and,Bool.and_true,Bool.or_true,Ja,w1])
 (repeat' (first | (refine iteI (fun h=>?_) (fun h=>?_))|(refine B2 (by first | omega | (simp (disch:=omega) only [Aa,Ak,Aj] at *;omega)) ?_;intro b hb)|(refine And.intro (by first | omega | (simp (disch:=omega) only [Aa,Ak,Aj] at *;omega)) ?_)|((first | (refine A9 hm (by rfl) (by kernel_rfl) ?_)|(refine Det.use (d_cont s _ hs (by omega)) ?_)|(refine Det.useQ (d_cont s _ hs (by omega)) ?_));simp only [Ch,Ah,Bn,Bs,Cn,Ab,Cf,Bo,Ei,Bd,A0,Dq,Bb,Ep,Cs,Be,Az,Ce,C0,Cb,Ba,Ai,B8,Em,Qe,Cc,Br,C6,D6,Du,D3,Kg,D4,Av,B0,Aq,Hb,H0,D1,M2,Nz,L8,Ag,Ae,A3,Cd,Bv,Bm,Bx,Bw,A5,Bq,B3,Bi,Ay,A4,Bt,Cy,Cz,A7,A8,B9,Aw,Ao,Al,B5,B6,Af,Am,Ap,Cl,A1,Cj,A2,Ad,Ac,List.map_cons,List.map_nil,List.getD_cons_zero,List.getD_cons_succ,List.append_nil,List.flatMap_cons,List.flatMap_nil,decide_eq_true_eq,beq_iff_eq,Nat.reduceLT,Nat.reduceEqDiff,true_and,and_true,Ca,Bu,↓reduceIte,reduceCtorEq,Int.toNat_natCast,Int.natCast_nonneg,L.p.injEq,PV.int.injEq,Bool.false_eq_true,Bool.true_and,Bool.and_true,Bool.or_true,Ja,w1,w2,w3])|(refine And.intro (ct_lt (by assumption)) ?_)|(exact True.intro)|(exfalso;omega)))
 all_goals (clear w1 w2 w3;unfold rlen;simp only [Uo] at *;(repeat' split) <;> omega)
end Go.LX
set_option maxRecDepth 100000
set_option maxHeartbeats 2000000
namespace Go.LX
open Go Go.RowKit Go.Proofs
attribute [local irreducible] Bz SWP Gm
def uF (s:List UInt8):Nat→Nat→Nat
 | 0,_=>s.length
 | f+1,i=>if i<s.length then (if rlen s i=0 then i else uF s f (i+rlen s i)) else s.length
def vF (s:List UInt8):Nat→Nat→Bool
 | 0,_=>true
 | f+1,i=>if i<s.length then (if rlen s i=0 then false else vF s f (i+rlen s i)) else true
def valid (s:List UInt8):Bool:=vF s (s.length+1) 0
theorem Qo (s:List UInt8) (hs:s.length≤1000000):Det cx 54 [.p (.str s)] [] (.p (.bool (valid s))) []:=by
 (refine Bz.of_code (X:=cx) false [] (by simp) Tryz.func54 (by kernel_rfl) rfl (by simp only [List.length_cons,List.length_nil,Tryz.ntmps54];decide) (by simp) ?_;refine Ax hm _ _ _ ?_;simp only [Tryz.ntmps54,Tryz.results54,Ah,Bn,Ci,H9,Ab,Bd,A0,Bb,Az,C0,Cb,Ai,Ad,argW,List.map_cons,List.map_nil,Ca])
 refine SWP.loop (fun x:Nat×Nat=>⟨Fo 17 [(0,.p (.str s)),(3,.p (.int .i64 x.1))],[]⟩) (fun x=>x.1≤s.length∧s.length+1≤x.1+x.2∧vF s x.2 x.1=valid s) (fun x=>s.length - x.1) (0,s.length+1) (St.le_slots (by simp only [Ck,Cm,Ac,Bj,Au,Nat.reduceEqDiff,reduceIte,Nat.reduceLT,Nat.reduceLeDiff];simp (disch:=omega) [Au,Bc,Cq,Aa] <;> (repeat' apply And.intro) <;> omega) (by simp (disch:=omega) [Dj,Eo,Dg,Bh,Au,Bc,Cq,Aa]) (by simp [Dk])) ⟨by simp,by simp,rfl⟩ ?_
 rintro ⟨i,f⟩ ⟨h1,h2,h3⟩
 simp only at h1 h2 h3
 obtain ⟨g,rfl⟩:∃ g,f=g+1:=⟨f - 1,by omega⟩
 have h4:=Jd9 s i
 have hw:=wia (i:=i) (j:=rlen s i) (by omega) (by omega)
 skip
 (refine Ax hm _ _ _ ?_;simp only [Ch,Ah,Bn,Bs,Ci,Fd,Cn,Ab,Co,B4,Bd,A0,Bb,Be,Az,Ce,C0,Ba,Ai,B8,Eg,Cc,Br,Av,Aq,D1,D9,Fb,Ag,Ae,A3,Cd,Bv,Bm,Bx,Bw,A5,B3,Bi,Ay,A4,Bt,Cy,Cz,A7,A8,B9,Aw,Ao,Al,B5,B6,Af,Am,Ap,Cl,A1,Cj,A2,Ad,Ac,Ea,List.map_cons,List.map_nil,List.append_nil,List.flatMap_cons,List.flatMap_nil,decide_eq_true_eq,Nat.reduceLT,Nat.reduceEqDiff,and_true,Ca,Bu,↓reduceIte,reduceCtorEq,L.p.injEq,PV.bool.injEq,Bool.and_true,Bool.or_false,Ja])
 (repeat' (first | (refine iteI (fun h=>?_) (fun h=>?_))|(refine B2 (by first | omega | (simp (disch:=omega) only [Aa,Ak,Aj] at *;omega)) ?_;intro b hb)|(refine And.intro (by first | omega | (simp (disch:=omega) only [Aa,Ak,Aj] at *;omega)) ?_)|((first | (refine A9 hm (by rfl) (by kernel_rfl) ?_)|(refine Det.use (d_Rune s i hs (by omega)) ?_)|(refine Det.useQ (d_Rune s i hs (by omega)) ?_));simp only [Ch,Ah,Bn,Bs,Cn,Ab,Cf,Bo,Ei,Bd,A0,Bb,Cs,Be,Az,C0,Cb,Ba,Ai,B8,Br,Av,B0,Aq,Hb,H0,Ag,Ae,A3,Bq,B3,Bt,Cy,Cz,A7,A8,B9,Aw,Ao,Al,B5,B6,Af,Am,Ap,Cl,A1,A2,Ad,Ac,Ea,List.map_cons,List.map_nil,beq_iff_eq,Nat.reduceLT,Nat.reduceEqDiff,and_true,Ca,↓reduceIte,reduceCtorEq,L.p.injEq,PV.bool.injEq,Bool.and_true,Bool.or_false,Bool.or_true,hw])|(exact True.intro)|(exfalso;omega)))
 ·rw [← h3,vF,if_pos (by omega),if_pos (by omega)]
 ·have:=Yd s i (by omega)
  exact ⟨(i+rlen s i,g),⟨by simp only;omega,by simp only;omega,by simp only;rw [← h3,vF,if_pos (by omega),if_neg (by omega)]⟩,by simp only;omega,(St.le_slots (by simp only [Ck,Cm,Ac,Bj,Au,Nat.reduceEqDiff,reduceIte,Nat.reduceLT,Nat.reduceLeDiff];simp (disch:=omega) [Au,Bc,Cq,Aa] <;> (repeat' apply And.intro) <;> omega) (by simp (disch:=omega) [Dj,Eo,Dg,Bh,Au,Bc,Cq,Aa]) (by simp [Dk]))⟩
 ·rw [← h3,vF,if_neg (by omega)]
def wr (c:Nat):List UInt8 :=
 if c=34 then [92,34] else if c=92 then [92,92] else if c=8 then [92,98] else if c=12 then [92,102] else if c=10 then [92,110] else if c=13 then [92,114] else if c=9 then [92,116]
 else if c<32 then [92,117,48,48,hexd (c / 16),hexd (c % 16)] else [UInt8.ofNat c]
theorem wi0 {c:Nat} (h:c≤3000000):IntKind.i64.wrap (c:Int)=(c:Int):=Aa (by omega) (by omega)
end Go.LX
set_option maxRecDepth 100000
set_option maxHeartbeats 2000000
namespace Go.LX
open Go Go.RowKit Go.Proofs
attribute [local irreducible] Bz SWP Gm
theorem Yo (n:Int) (h0:-9223372036854775808≤n) (h1:n≤9223372036854775807):Det cx 113 [.p (.int .i64 n)] [] (.p (.str (Lib.itoa n))) []:=by
 refine Det.of_below (v:=.string ⟨⟨Lib.itoa n⟩⟩) (enters_of Tryz.func113 (by kernel_rfl) rfl) rfl (fun β w Im=>PRep.str _) fun β Im w vs hg hf=>?_
 obtain ⟨v,rfl,hv⟩:=fit1 hf
 have:=X1 hv;subst this
 refine (Tryz.strconv_Itoa n h0 h1 w (Jld hg).pow).mono fun e w' ⟨h,k,os,hw⟩=>⟨h,?_⟩
 subst hw
 exact ⟨rfl,rfl,rfl,by show w.heap.size≤(w.heap ++ os).size;rw [Array.size_append];omega,fun _ hj=>Sort.heap_grow_old (w.drewN k) os hj⟩
def Jdq (s:List UInt8):L:=match Lib.atoiAll s with
 | .ok v=>.tup [.int .i64 v,.nifc]
 | .range=>.tup [.int .i64 (Lib.atoiSat s),.ifc]
 | _=>.tup [.int .i64 0,.ifc]
theorem tupP {β:Env} {w:World} {Im:Nat→Prop} {a b:Value} {x y:PV} (h1:PRep w Im a x) (h2:PRep w Im b y):LRep β w Im (.tuple #[a,b]) (.tup [x,y]) :=
 ⟨[
  a,b],rfl,rfl,fun i v p hi hp=>by
  match i,hi,hp with
  | 0,hi,hp=>simp at hi hp;subst hi;subst hp;exact h1
  | 1,hi,hp=>simp at hi hp;subst hi;subst hp;exact h2
  | i+2,hi,hp=>simp at hi⟩
theorem Jgz (s:List UInt8) (hs:s.length≤1000000):Det cx 112 [.p (.str s)] [] (Jdq s) []:=by
 refine Det.of_belowE (enters_of Tryz.func112 (by kernel_rfl) rfl) fun β Im w vs hg hf=>?_
 obtain ⟨v,rfl,h1⟩:=fit1 hf
 cases Vt h1
 unfold Jdq
 cases ha:Lib.atoiAll s with
 | ok n =>
  refine (Tryz.strconv_Atoi_ok ⟨⟨s⟩⟩ (by show s.length≤_;omega) n ha w).mono fun e w' ⟨h,hw⟩=>⟨⟨_,h,fun β w Im=>tupP (.int _ _) .nifc⟩,?_⟩
  rcases hw with rfl | ⟨u,rfl⟩
  ·exact Below.refl _ _
  ·exact Lib.bytesWorld_below _ _ _
 | range =>
  obtain ⟨te,pe,he⟩:=(Jld hg).rng
  exact (Tryz.strconv_Atoi_range ⟨⟨s⟩⟩ (Nat.le_trans hs (by decide)) ha _ w he (.inr ⟨te,pe,rfl⟩)).mono fun e w' ⟨N,h,_,_,hb⟩=>⟨⟨_,h,fun β w Im=>tupP (.int _ _) (.ifc _ _)⟩,hb⟩
 | _ =>
  obtain ⟨te,pe,he⟩:=(Jld hg).syn
  exact (Any.strconv_Atoi_syntax Tryz.laysC172 ⟨⟨s⟩⟩ (Nat.le_trans hs (by decide)) ha _ w he (.inr ⟨te,pe,rfl⟩)).mono fun e w' ⟨N,h,_,_,hb⟩=>⟨⟨_,h,fun β w Im=>tupP (.int _ _) (.ifc _ _)⟩,hb⟩
theorem Jc4 (s:List UInt8) (hs:s.length≤9223372036854775807):Det cx 52 [.p (.str s)] [] (.p (.bool (Lib.validD s))) []:=by
 refine Det.of_below (v:=.bool (Lib.validD s)) (enters_of Tryz.func52 (by kernel_rfl) rfl) rfl (fun _ _ _=>.bool _) fun β Im w vs hg hf=>?_
 obtain ⟨v,rfl,h1⟩:=fit1 hf
 cases Vt h1
 exact Any.utf8_ValidString Tryz.lays196 ⟨⟨s⟩⟩ w hs (Jld hg).tabs
theorem Jj7 (s:List UInt8) (i:Nat):Lib.decodeL (s.drop i)=dec s i:=by
 show dec (s.drop i) 0=dec s i
 rw [Jch,Nat.add_zero]
theorem Jfr:∀ (f:Nat) (s:List UInt8) (i:Nat),s.length<i+f→vF s f i=Lib.validD (s.drop i)
 | 0,s,i,h=>by rw [List.drop_eq_nil_of_le (by omega)];rfl
 | f+1,s,i,h=>by
  rw [vF]
  by_cases hi:i<s.length
  ·rw [if_pos hi]
   have hne:s.drop i≠[]:=fun e=>by have:=congrArg List.length e;simp at this;omega
   rw [Lib.validD_step _ hne,Jj7,Pp]
   by_cases hr:rlen s i=0
   ·rw [if_pos hr,if_pos hr,if_pos ⟨rfl,rfl⟩]
   ·rw [if_neg hr,if_neg hr]
    have hc:¬ (code s i=65533∧rlen s i=1):=fun ⟨c1,c2⟩=>by
     rcases O7 s i with e | ⟨e,g⟩ | ⟨e,_⟩ | ⟨e,_⟩ | ⟨e,_⟩
     ·exact hr e
     ·have:code s i=at_ s i:=by unfold code;rw [if_pos g]
      omega
     ·omega
     ·omega
     ·omega
    rw [if_neg hc,List.drop_drop]
    exact Jfr f s _ (by omega)
  ·rw [if_neg hi,List.drop_eq_nil_of_le (by omega)];rfl
theorem Pg (s:List UInt8) (hs:s.length≤9223372036854775807):Det cx 52 [.p (.str s)] [] (.p (.bool (valid s))) []:=by
 have h:=Jc4 s hs
 have e:Lib.validD s=valid s:=by unfold valid;rw [Jfr _ s 0 (by omega),List.drop_zero]
 rw [e] at h
 exact h
end Go.LX
set_option maxRecDepth 100000
set_option maxHeartbeats 2000000
namespace Go.LX
open Go Go.RowKit Go.Proofs
attribute [local irreducible] Bz SWP Gm
def letP (c:Nat):Prop:=(97≤c∧c≤122)∨(65≤c∧c≤90)∨c=95
instance (c:Nat):Decidable (letP c):=inferInstanceAs (Decidable (_∨_))
def figP (c:Nat):Prop:=48≤c∧c≤57
instance (c:Nat):Decidable (figP c):=inferInstanceAs (Decidable (_∧_))
def wF (s:List UInt8):Nat→Nat→Nat
 | 0,i=>i
 | f+1,i=>if i<s.length∧(letP (at_ s i)∨(0<i∧figP (at_ s i))) then wF s f (i+1) else i
def L7 (s:List UInt8):Nat:=wF s (s.length+1) 0
def isWd (s:List UInt8):Prop:=s≠[]∧L7 s=s.length
instance (s:List UInt8):Decidable (isWd s):=inferInstanceAs (Decidable (_∧_))
theorem wF_le (s:List UInt8):∀ f i,i≤s.length→i≤wF s f i∧wF s f i≤s.length
 | 0,i,h=>⟨Nat.le_refl _,h⟩
 | f+1,i,h=>by
  rw [wF]
  split
  ·have:=wF_le s f (i+1) (by omega);omega
  ·exact ⟨Nat.le_refl _,h⟩
theorem Xd (s:List UInt8):L7 s≤s.length:=(wF_le s _ 0 (Nat.zero_le _)).2
theorem Jd2 (c:Nat):Det cx 174 [.p (.int .u8 c)] [] (.p (.bool (decide (letP c)))) []:=by
 (refine Bz.of_code (X:=cx) false [] (by simp) Tryz.func174 (by kernel_rfl) rfl (by simp only [List.length_cons,List.length_nil,Tryz.ntmps174];decide) (by simp) ?_;refine Ax hm _ _ _ ?_;simp only [Tryz.ntmps174,Tryz.results174,Ah,Bn,Cn,Ab,Bd,A0,Dq,Bb,Ep,Be,Az,C0,Cb,Ba,Ai,B8,Em,C6,D6,Du,D3,Kg,D4,Av,B0,Aq,H0,Pi,M2,Ag,Ae,A3,Bt,Cy,Cz,A7,A8,B9,Aw,Ao,Al,B5,B6,Af,Am,Ap,Cl,A1,A2,Ad,Ac,argW,List.map_cons,List.map_nil,List.getD_cons_zero,List.getD_cons_succ,decide_eq_true_eq,Nat.reduceLT,Nat.reduceEqDiff,and_true,Ca,↓reduceIte,reduceCtorEq,L.p.injEq,PV.bool.injEq,Bool.false_eq_true,Bool.and_true,Bool.or_true])
 (repeat' (first | (refine iteI (fun h=>?_) (fun h=>?_))|(refine B2 (by first | omega | (simp (disch:=omega) only [Aa,Ak,Aj] at *;omega)) ?_;intro b hb)|(refine And.intro (by first | omega | (simp (disch:=omega) only [Aa,Ak,Aj] at *;omega)) ?_)|((first | (refine A9 hm (by rfl) (by kernel_rfl) ?_));simp only [Dm])|(exact True.intro)|(exfalso;omega)))
 all_goals first | exact decide_eq_decide.2 (by unfold letP;omega) | exact (decide_eq_false (by unfold letP;omega)).symm | exact (decide_eq_true (by unfold letP;omega)).symm
theorem Jdw (c:Nat):Det cx 175 [.p (.int .u8 c)] [] (.p (.bool (decide (figP c)))) []:=by
 (refine Bz.of_code (X:=cx) false [] (by simp) Tryz.func175 (by kernel_rfl) rfl (by simp only [List.length_cons,List.length_nil,Tryz.ntmps175];decide) (by simp) ?_;refine Ax hm _ _ _ ?_;simp only [Tryz.ntmps175,Tryz.results175,Ah,Bn,Cn,Ab,Bd,A0,Dq,Bb,Ep,Be,Az,C0,Cb,Ba,Ai,B8,Em,C6,D6,Du,D4,Av,B0,Aq,Pi,M2,Ag,Ae,A3,Bt,Cy,Cz,A7,A8,B9,Aw,Ao,Al,B5,B6,Af,Am,Ap,Cl,A1,A2,Ad,Ac,argW,List.map_cons,List.map_nil,List.getD_cons_zero,List.getD_cons_succ,decide_eq_true_eq,Nat.reduceLT,Nat.reduceEqDiff,and_true,Ca,↓reduceIte,reduceCtorEq,L.p.injEq,PV.bool.injEq,Bool.false_eq_true,Bool.and_true,Bool.or_true])
 (repeat' (first | (refine iteI (fun h=>?_) (fun h=>?_))|(refine B2 (by first | omega | (simp (disch:=omega) only [Aa,Ak,Aj] at *;omega)) ?_;intro b hb)|(refine And.intro (by first | omega | (simp (disch:=omega) only [Aa,Ak,Aj] at *;omega)) ?_)|((first | (refine A9 hm (by rfl) (by kernel_rfl) ?_));simp only [Dm])|(exact True.intro)|(exfalso;omega)))
 all_goals first | exact decide_eq_decide.2 (by unfold figP;omega) | exact (decide_eq_false (by unfold figP;omega)).symm | exact (decide_eq_true (by unfold figP;omega)).symm
theorem Yr (s:List UInt8) (hs:s.length≤1000000):Det cx 106 [.p (.str s)] [] (.p (.int .i64 (L7 s))) []:=by
 (refine Bz.of_code (X:=cx) false [] (by simp) Tryz.func106 (by kernel_rfl) rfl (by simp only [List.length_cons,List.length_nil,Tryz.ntmps106];decide) (by simp) ?_;refine Ax hm _ _ _ ?_;simp only [Tryz.ntmps106,Tryz.results106,Ah,Bn,Ci,H9,Ab,Bd,A0,Bb,Az,Cb,Ai,Ad,argW,List.map_cons,List.map_nil,Ca])
 refine SWP.loop (fun x:Nat×Nat=>⟨Fo 27 [(0,.p (.str s)),(3,.p (.int .i64 x.1))],[]⟩) (fun x=>x.1≤s.length∧s.length+1≤x.1+x.2∧wF s x.2 x.1=L7 s) (fun x=>s.length - x.1) (0,s.length+1) (St.le_slots (by simp only [Ck,Cm,Ac,Bj,Au,Nat.reduceEqDiff,reduceIte,Nat.reduceLT,Nat.reduceLeDiff];simp (disch:=omega) [Au,Bc,Cq,Aa] <;> (repeat' apply And.intro) <;> omega) (by simp (disch:=omega) [Dj,Eo,Dg,Bh,Au,Bc,Cq,Aa]) (by simp [Dk])) ⟨by simp,by simp,rfl⟩ ?_
 rintro ⟨i,f⟩ ⟨h1,h2,h3⟩
 simp only at h1 h2 h3
 obtain ⟨g,rfl⟩:∃ g,f=g+1:=⟨f - 1,by omega⟩
 rw [wF] at h3
 skip
 (refine Ax hm _ _ _ ?_;simp only [Ah,Bn,Bs,Fd,Cn,Ab,Co,B4,Bd,A0,Dq,Bb,Ep,Be,Az,Ce,C0,Ba,Ai,B8,Em,Qe,Eg,Cc,Br,C6,D6,Du,Kg,D4,Av,Aq,D1,D9,Fb,Nz,L8,Ag,Ae,A3,Cd,Bv,Bm,Bx,Bw,A5,B3,Bi,Ay,A4,Bt,Cy,Cz,A7,A8,B9,Aw,Ao,Al,B5,B6,Af,Am,Ap,Cl,A1,Cj,A2,Ad,Ac,Ea,List.map_cons,List.map_nil,List.getD_cons_zero,List.getD_cons_succ,List.append_nil,List.flatMap_cons,List.flatMap_nil,decide_eq_true_eq,Nat.reduceLT,Nat.reduceEqDiff,true_and,and_true,Ca,Bu,↓reduceIte,reduceCtorEq,Int.toNat_natCast,Int.natCast_nonneg,L.p.injEq,PV.int.injEq,Bool.false_eq_true,Bool.true_and,Bool.and_true,Bool.or_false,Ja,wi1 (i:=i) (by omega)])
 (repeat' (first | (refine iteI (fun h=>?_) (fun h=>?_))|(refine B2 (by first | omega | (simp (disch:=omega) only [Aa,Ak,Aj] at *;omega)) ?_;intro b hb)|(refine And.intro (by first | omega | (simp (disch:=omega) only [Aa,Ak,Aj] at *;omega)) ?_)|((first | (refine A9 hm (by rfl) (by kernel_rfl) ?_)|(refine Det.use (Jd2 _) ?_)|(refine Det.useQ (Jd2 _) ?_)|(refine Det.use (Jdw _) ?_)|(refine Det.useQ (Jdw _) ?_));simp only [Ch,Ah,Bn,Bs,Ci,Fd,Cn,Ab,Co,Bo,B4,Bd,A0,Dq,Bb,Ep,Cs,Be,Az,Ce,C0,Cb,Ba,Ai,B8,Em,Qe,Cc,Br,C6,D6,Du,D3,Kg,D4,Av,B0,Aq,Hb,Js,Nz,L8,Ag,Ae,A3,Cd,Bv,Bm,Bx,Bw,A5,Bq,B3,Bi,Ay,A4,Bt,Cy,Cz,A7,A8,B9,Aw,Ao,Al,B5,B6,Af,Am,Ap,Cl,A1,Cj,A2,Ad,Ac,Ea,List.map_cons,List.map_nil,List.getD_cons_zero,List.getD_cons_succ,List.append_nil,List.flatMap_cons,List.flatMap_nil,decide_eq_true_eq,Nat.reduceLT,Nat.reduceEqDiff,true_and,and_true,Ca,Bu,↓reduceIte,reduceCtorEq,Int.toNat_natCast,Int.natCast_nonneg,L.p.injEq,PV.int.injEq,Bool.false_eq_true,Bool.true_and,Bool.and_true,Bool.or_true,Ja,wi1 (i:=i) (by omega)])|(exact True.intro)|(exfalso;omega)))
 all_goals first
  | exact ⟨(i+1,g),⟨by simp only;omega,by simp only;omega,by simp only;rw [← h3,if_pos ⟨by omega,.inl (by assumption)⟩]⟩,by simp only;omega,(St.le_slots (by simp only [Ck,Cm,Ac,Bj,Au,Nat.reduceEqDiff,reduceIte,Nat.reduceLT,Nat.reduceLeDiff];simp (disch:=omega) [Au,Bc,Cq,Aa] <;> (repeat' apply And.intro) <;> omega) (by simp (disch:=omega) [Dj,Eo,Dg,Bh,Au,Bc,Cq,Aa]) (by simp [Dk]))⟩
  | exact ⟨(i+1,g),⟨by simp only;omega,by simp only;omega,by simp only;rw [← h3,if_pos ⟨by omega,.inr ⟨by omega,by assumption⟩⟩]⟩,by simp only;omega,(St.le_slots (by simp only [Ck,Cm,Ac,Bj,Au,Nat.reduceEqDiff,reduceIte,Nat.reduceLT,Nat.reduceLeDiff];simp (disch:=omega) [Au,Bc,Cq,Aa] <;> (repeat' apply And.intro) <;> omega) (by simp (disch:=omega) [Dj,Eo,Dg,Bh,Au,Bc,Cq,Aa]) (by simp [Dk]))⟩
  | (rw [← h3,if_neg (fun hc=>by
    obtain ⟨c1,c2⟩:=hc
    rcases c2 with c2 | ⟨c3,c2⟩
    ·first | (exfalso;omega) | contradiction
    ·first | (exfalso;omega) | contradiction)])
theorem Nw (s:List UInt8) (hs:s.length≤1000000):Det cx 108 [.p (.str s)] [] (.p (.bool (decide (isWd s)))) []:=by
 (refine Bz.of_code (X:=cx) false [] (by simp) Tryz.func108 (by kernel_rfl) rfl (by simp only [List.length_cons,List.length_nil,Tryz.ntmps108];decide) (by simp) ?_;refine Ax hm _ _ _ ?_;simp only [Tryz.ntmps108,Tryz.results108,Ah,Bn,Cn,Ab,Bd,A0,Dq,Bb,Ep,Be,Az,Ce,C0,Hc,Ba,Ai,B8,Em,Cc,C6,D6,Du,D4,F4,B0,Aq,Qz,Ag,Ae,A3,Cd,Bv,Bm,Bx,Bw,A5,B3,Bi,Ay,A4,Bt,Cy,Cz,A7,A8,B9,Aw,Ao,Al,B5,B6,Af,Am,Ap,Cl,A1,Cj,A2,Ad,Ac,argW,List.map_cons,List.map_nil,List.getD_cons_zero,List.getD_cons_succ,List.append_nil,List.flatMap_cons,List.flatMap_nil,beq_eq_false_iff_ne,Bool.not_eq_eq_eq_not,ne_eq,Nat.reduceLT,Nat.reduceEqDiff,and_true,Ca,Bu,↓reduceIte,reduceCtorEq,Aj,Bool.not_true,L.p.injEq,PV.bool.injEq,Bool.false_eq_true,Bool.and_true,Bool.or_true])
 (repeat' (first | (refine iteI (fun h=>?_) (fun h=>?_))|(refine B2 (by first | omega | (simp (disch:=omega) only [Aa,Ak,Aj] at *;omega)) ?_;intro b hb)|(refine And.intro (by first | omega | (simp (disch:=omega) only [Aa,Ak,Aj] at *;omega)) ?_)|((first | (refine A9 hm (by rfl) (by kernel_rfl) ?_)|(refine Det.use (Yr s hs) ?_)|(refine Det.useQ (Yr s hs) ?_));simp only [Cn,Ab,Bd,A0,Dq,Bb,Cs,Be,Az,C0,Ba,Ai,B8,Em,Eg,C6,D6,Du,D4,Av,Aq,H0,D9,Fb,Ag,Ae,A3,Bq,B3,Bt,Cy,Cz,A7,A8,B9,Aw,Ao,Al,B5,B6,Af,Am,Ap,Cl,A1,A2,Ad,Ac,List.getD_cons_zero,List.getD_cons_succ,Nat.reduceLT,Nat.reduceEqDiff,and_true,Ca,↓reduceIte,reduceCtorEq,L.p.injEq,PV.bool.injEq,Bool.and_true,Bool.or_false,Ja])|(exact True.intro)|(exfalso;omega)))
 ·have hne:s≠[]:=fun e=>by subst e;simp at *
  rw [Bool.eq_iff_iff,beq_iff_eq,decide_eq_true_eq]
  exact ⟨fun h=>⟨hne,by omega⟩,fun h=>by have:=h.2;omega⟩
 ·exact (decide_eq_false (fun h=>h.1 (List.eq_nil_of_length_eq_zero (by omega)))).symm
end Go.LX
