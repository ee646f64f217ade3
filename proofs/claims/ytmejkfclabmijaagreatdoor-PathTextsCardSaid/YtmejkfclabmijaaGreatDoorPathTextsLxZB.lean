/- Values at a step. -/
import Derived.Test.YtmejkfclabmijaaGreatDoorPathTextsLxM
import Derived.Test.YtmejkfclabmijaaGreatDoorPathTextsLxZA
import Derived.Test.YtmejkfclabmijaaGreatDoorPathTextsLxD
import Derived.Test.YtmejkfclabmijaaGreatDoorPathTextsLxE
import Derived.Lib.Overlaps
set_option linter.unusedSimpArgs false
set_option linter.unusedVariables false
set_option linter.unusedSectionVars false
set_option linter.unnecessarySimpa false
set_option maxRecDepth 100000
set_option maxHeartbeats 2000000
namespace Go.LX
open Go Go.RowKit Go.Proofs
attribute [local irreducible] B2 SWP Hb
def inT:Tree→Step→Except Nat Tree
 | .mk k _ _ _ kids,x =>
  if x.part=true then (if k≠5 then .error 5 else match kids.list[x.n.toNat]? with
   | some p=>.ok p.2
   | none=>.error 6)
  else (if k≠6 then .error 5 else match K9 x.name kids.list with
   | some t=>.ok t
   | none=>.error 6)
theorem Jcf {k:Int} {s:List UInt8} {g:Bool} {e:Int} {kids:Forest} {x:Step} (hp:x.part=true) (hk:¬ k=5):inT (.mk k s g e kids) x=.error 5:=by
 show (if x.part=true then (if k≠5 then Except.error 5 else _) else _)=_
 rw [if_pos hp,if_pos hk]
theorem Jch {k:Int} {s:List UInt8} {g:Bool} {e:Int} {kids:Forest} {x:Step} (hp:x.part=false) (hk:¬ k=6):inT (.mk k s g e kids) x=.error 5:=by
 show (if x.part=true then _ else (if k≠6 then Except.error 5 else _))=_
 rw [if_neg (by simp [hp]),if_pos hk]
theorem Jkt {s:List UInt8} {g:Bool} {e:Int} {kids:Forest} {x:Step} (hp:x.part=true):inT (.mk 5 s g e kids) x=match kids.list[x.n.toNat]? with
   | some p=>.ok p.2
   | none=>.error 6:=by
 show (if x.part=true then _ else _)=_
 rw [if_pos hp];rfl
theorem Jj8 {s:List UInt8} {g:Bool} {e:Int} {kids:Forest} {x:Step} (hp:x.part=false):inT (.mk 6 s g e kids) x=match K9 x.name kids.list with
   | some t=>.ok t
   | none=>.error 6:=by
 show (if x.part=true then _ else _)=_
 rw [if_neg (by simp [hp])];rfl
def getR:Except Nat Tree→L
 | .ok t=>.tup [.sl (valL (t.enc [])),.int .i64 0]
 | .error e=>.tup [.snil,.int .i64 e]
theorem Jfv {l:List (List UInt8×Tree)} {i:Nat} {p:List UInt8×Tree} (h:l[i]? = some p):(E3 l)[i]? = some [.sl (valL (p.2.enc []))]:=by simp [E3,h]
theorem d_in (t:Tree) (x:Step) (hv:(t.enc []).length≤1000000) (hx:Fw x):Det cx 59 [.p (.sl (valL (t.enc []))),.p (.agg [.bool x.part,.str x.name,.int .i64 x.n])] [] (getR (inT t x)) []:=by
 cases t with
 | mk k s g e kids =>
 have hkv:kids.enc.length≤999999:=by rw [Gx] at hv;simp at hv;omega
 have hll:=Forest.len_le kids
 have hkl:=Forest.list_len kids
 unfold Fw at hx
 cases hp:x.part
 ·by_cases hk:k=6
  ·subst hk
   rw [Jj8 hp]
   cases hf:K9 x.name kids.list with
   | none =>
    have hF:=Jo5 [] s g e kids x.name hkv
    rw [hf] at hF
    unfold Jnk at hF
    skip
    (refine B2.of_code (X:=cx) false [] (by simp) Tryz.func59 (by kernel_rfl) rfl (by simp only [List.length_cons,List.length_nil,Tryz.ntmps59];decide) (by simp) ?_;refine Ax hm _ _ _ ?_;simp only [Tryz.ntmps59,Tryz.results59,Cb,Ah,Bm,Br,Ab,Bd,A1,Bc,Ct,Bf,A0,Ch,Ca,E4,A9,Aj,B8,Ed,C8,Cv,Un,Cg,Bo,Bl,Bq,Au,Bt,Ar,Kx,Eo,Cj,Ei,G8,C0,Gb,G3,C5,Dd,Dv,E0,Qp,Um,Cu,E5,Ag,Ae,A3,Cf,Bv,Bi,Bz,Bx,A4,B6,Bh,Az,A5,Aw,B4,Ez,Cl,Ad,Ac,Bn,Bg,Bb,argW,List.map_cons,List.map_nil,List.length_cons,List.length_nil,List.append_nil,List.flatMap_cons,List.flatMap_nil,List.drop_zero,List.getElem?_cons_zero,List.getElem?_cons_succ,bne_iff_ne,ne_eq,not_true_eq_false,Nat.reduceLT,Nat.reduceLeDiff,Nat.reduceEqDiff,Nat.reduceAdd,Int.reduceToNat,Int.reduceLE,true_and,Cc,Bw,↓reduceIte,reduceCtorEq,Nat.zero_add,Bool.false_eq_true,Bool.true_and,Bool.or_true,Ox,Mm,Pa,M1,L5,Kg,Kc,Jj,Iq,Lm,Nn])
    (repeat' (first | (refine iteI (fun h=>?_) (fun h=>?_))|(refine B1 (by first | omega | (simp (disch:=omega) only [Aa,Ak,Ai] at *;omega)) ?_;intro b hb)|(refine And.intro (by first | omega | (simp (disch:=omega) only [Aa,Ak,Ai] at *;omega)) ?_)|((first | (refine Ba hm (by rfl) (by kernel_rfl) ?_)|(refine Det.use (hF) ?_)|(refine Det.useQ (hF) ?_)|(refine Er.use (hF) ?_)|(refine Dp.use (hF) ?_));simp only [Ah,Bm,Br,Cn,Ab,B3,Bd,A1,Bc,Ct,Bf,A0,Ca,E4,A9,Aj,N7,Ek,Bl,Bq,J7,G8,Eb,Ag,Ae,A3,Bp,Et,Bs,Cs,Cr,A6,A7,B9,Av,Ap,Al,B7,B5,Af,Am,Ao,Cy,Ay,Aw,A2,Ad,Ac,List.map_cons,List.map_nil,List.getElem?_cons_zero,List.getElem?_cons_succ,Nat.reduceLT,Nat.reduceEqDiff,and_true,↓reduceIte,Bool.not_false,Bool.and_true])|(exact True.intro)|(exfalso;omega)))
    all_goals rfl
   | some t =>
    have hF:=Jo5 [] s g e kids x.name hkv
    rw [hf] at hF
    unfold Jnk at hF
    (refine B2.of_code (X:=cx) false [] (by simp) Tryz.func59 (by kernel_rfl) rfl (by simp only [List.length_cons,List.length_nil,Tryz.ntmps59];decide) (by simp) ?_;refine Ax hm _ _ _ ?_;simp only [Tryz.ntmps59,Tryz.results59,Cb,Ah,Bm,Br,Ab,Bd,A1,Bc,Ct,Bf,A0,Ch,Ca,E4,A9,Aj,B8,Ed,C8,Cv,Un,Cg,Bo,Bl,Bq,Au,Bt,Ar,Kx,Eo,Cj,Ei,G8,C0,Gb,G3,C5,Dd,Dv,E0,Qp,Um,Cu,E5,Ag,Ae,A3,Cf,Bv,Bi,Bz,Bx,A4,B6,Bh,Az,A5,Aw,B4,Ez,Cl,Ad,Ac,Bn,Bg,Bb,argW,List.map_cons,List.map_nil,List.length_cons,List.length_nil,List.append_nil,List.flatMap_cons,List.flatMap_nil,List.drop_zero,List.getElem?_cons_zero,List.getElem?_cons_succ,bne_iff_ne,ne_eq,not_true_eq_false,Nat.reduceLT,Nat.reduceLeDiff,Nat.reduceEqDiff,Nat.reduceAdd,Int.reduceToNat,Int.reduceLE,true_and,Cc,Bw,↓reduceIte,reduceCtorEq,Nat.zero_add,Bool.false_eq_true,Bool.true_and,Bool.or_true,Ox,Mm,Pa,M1,L5,Kg,Kc,Jj,Iq,Lm,Nn])
    (repeat' (first | (refine iteI (fun h=>?_) (fun h=>?_))|(refine B1 (by first | omega | (simp (disch:=omega) only [Aa,Ak,Ai] at *;omega)) ?_;intro b hb)|(refine And.intro (by first | omega | (simp (disch:=omega) only [Aa,Ak,Ai] at *;omega)) ?_)|((first | (refine Ba hm (by rfl) (by kernel_rfl) ?_)|(refine Det.use (hF) ?_)|(refine Det.useQ (hF) ?_)|(refine Er.use (hF) ?_)|(refine Dp.use (hF) ?_));simp only [Cb,Ah,Bm,Br,Cn,Ab,Bd,A1,Bc,Ct,Bf,A0,Ca,A9,Aj,N7,Ek,Bl,Bq,J7,G8,Eb,Ag,Ae,A3,Bp,Et,Bs,Cs,Cr,A6,A7,B9,Av,Ap,Al,B7,B5,Af,Am,Ao,Cy,Ay,Aw,A2,Ad,Ac,List.map_cons,List.map_nil,List.getElem?_cons_zero,List.getElem?_cons_succ,Nat.reduceLT,Nat.reduceEqDiff,and_true,↓reduceIte,Bool.not_true,Bool.false_eq_true,Bool.and_true])|(exact True.intro)|(exfalso;omega)))
    all_goals rfl
  ·rw [Jch hp hk]
   (refine B2.of_code (X:=cx) false [] (by simp) Tryz.func59 (by kernel_rfl) rfl (by simp only [List.length_cons,List.length_nil,Tryz.ntmps59];decide) (by simp) ?_;refine Ax hm _ _ _ ?_;simp only [Tryz.ntmps59,Tryz.results59,Cb,Ah,Bm,Br,Cn,Ab,B3,Bd,A1,Bc,Ct,Bf,A0,Ch,Ca,E4,A9,Aj,B8,Ed,C8,Cv,Un,Cg,Bo,Bl,Bq,Au,Bt,Ar,Kx,Eo,Cj,Ei,G8,C0,Gb,G3,C5,Dd,Dv,E0,Qp,Um,Cu,E5,Ag,Ae,A3,Cf,Bv,Bi,Bz,Bx,A4,B6,Bh,Az,A5,Bs,Cs,Cr,A6,A7,B9,Av,Ap,Al,B7,B5,Af,Am,Ao,Cy,Ay,Aw,B4,Ez,Cl,A2,Ad,Ac,Bn,Bg,Bb,argW,List.map_cons,List.map_nil,List.length_cons,List.length_nil,List.append_nil,List.flatMap_cons,List.flatMap_nil,List.drop_zero,List.getElem?_cons_zero,List.getElem?_cons_succ,bne_iff_ne,ne_eq,Nat.reduceLT,Nat.reduceLeDiff,Nat.reduceEqDiff,Nat.reduceAdd,Int.reduceToNat,Int.reduceLE,true_and,and_true,Cc,Bw,↓reduceIte,reduceCtorEq,Nat.zero_add,Bool.false_eq_true,Bool.true_and,Bool.and_true,Bool.or_true,Ox,Mm,Pa,M1,L5,Kg,Kc,Jj,Iq,Lm,Nn])
   (repeat' (first | (refine iteI (fun h=>?_) (fun h=>?_))|(refine B1 (by first | omega | (simp (disch:=omega) only [Aa,Ak,Ai] at *;omega)) ?_;intro b hb)|(refine And.intro (by first | omega | (simp (disch:=omega) only [Aa,Ak,Ai] at *;omega)) ?_)|((first | (refine Ba hm (by rfl) (by kernel_rfl) ?_));simp only [Dh])|(exact True.intro)|(exfalso;omega)))
   all_goals rfl
 ·rw [if_pos hp] at hx
  obtain ⟨n,hn⟩:∃ n:Nat,x.n=n:=⟨x.n.toNat,by omega⟩
  by_cases hk:k=5
  ·subst hk
   rw [Jkt hp,hn]
   have hpt:((n:Int)).toNat=n:=rfl
   rw [hpt]
   by_cases hlt:n<kids.len
   ·obtain ⟨p,hpk⟩:∃ p,kids.list[n]? = some p:=⟨_,List.getElem?_eq_getElem (by omega)⟩
    have hpg:=Jfv hpk
    rw [hpk]
    skip
    (refine B2.of_code (X:=cx) false [] (by simp) Tryz.func59 (by kernel_rfl) rfl (by simp only [List.length_cons,List.length_nil,Tryz.ntmps59];decide) (by simp) ?_;refine Ax hm _ _ _ ?_;simp only [Tryz.ntmps59,Tryz.results59,Cb,Ah,Bm,Br,Ab,Bd,A1,Bc,Ct,Bf,A0,Ca,E4,A9,Aj,B8,Ed,C8,Cv,Un,Bo,Bl,Ja,Bq,Au,Bt,Ar,Kx,Eo,Cj,Ei,G8,C0,Gb,G3,C5,Dd,Dv,E0,Qp,Um,Cu,E5,Aw,B4,Ez,Ad,Ac,Bn,Bg,Bb,argW,List.map_cons,List.map_nil,List.length_cons,List.length_nil,List.drop_zero,List.getElem?_cons_zero,bne_iff_ne,ne_eq,not_true_eq_false,Nat.reduceLT,Nat.reduceLeDiff,Nat.reduceEqDiff,Nat.reduceAdd,Int.reduceToNat,Int.reduceLE,true_and,Cc,↓reduceIte,reduceCtorEq,Nat.zero_add,Bool.true_and,Bool.or_true,Ox,Mm,Pa,M1,Kc,Jj,Lm,Nn])
    (repeat' (first | (refine iteI (fun h=>?_) (fun h=>?_))|(refine B1 (by first | omega | (simp (disch:=omega) only [Aa,Ak,Ai] at *;omega)) ?_;intro b hb)|(refine And.intro (by first | omega | (simp (disch:=omega) only [Aa,Ak,Ai] at *;omega)) ?_)|((first | (refine Ba hm (by rfl) (by kernel_rfl) ?_)|(refine Det.use (Jcc [] 5 s g e kids hkv) ?_)|(refine Det.useQ (Jcc [] 5 s g e kids hkv) ?_));simp only [Cb,Ah,Bm,Br,Cn,Ab,B3,Bd,A1,Mv,Kf,Bc,Bf,A0,Ca,E4,Aj,Jn,S1,M7,Mq,O2,I4,Ot,Bl,Ja,Bq,Au,Ar,Lc,Eo,Cj,Ei,G8,C0,Gb,G3,C5,Dd,Dv,E0,Ag,Ae,A3,Bs,Cs,Cr,A6,A7,B9,Av,Ap,Al,B7,B5,Af,Am,Ao,Cy,Ay,Aw,A2,Ad,Ac,List.map_cons,List.map_nil,List.length_cons,List.length_nil,List.drop_succ_cons,List.drop_zero,List.getElem?_cons_zero,List.getElem?_cons_succ,decide_eq_true_eq,Nat.reduceLT,Nat.reduceLeDiff,Nat.reduceEqDiff,Nat.reduceAdd,Int.reduceToNat,Int.reduceLE,true_and,and_true,Cc,↓reduceIte,reduceCtorEq,Int.toNat_natCast,Int.natCast_nonneg,Nat.zero_add,Bool.true_and,Bool.and_true,Bool.or_false,Ox,Mm,Q1,Ng,Kc,Lx,L6,Lb,Nn,hpg])|(exact True.intro)|(exfalso;omega)))
    all_goals rfl
   ·rw [List.getElem?_eq_none (by omega)]
    have hpg:=hn
    (refine B2.of_code (X:=cx) false [] (by simp) Tryz.func59 (by kernel_rfl) rfl (by simp only [List.length_cons,List.length_nil,Tryz.ntmps59];decide) (by simp) ?_;refine Ax hm _ _ _ ?_;simp only [Tryz.ntmps59,Tryz.results59,Cb,Ah,Bm,Br,Ab,Bd,A1,Bc,Ct,Bf,A0,Ca,E4,A9,Aj,B8,Ed,C8,Cv,Un,Bo,Bl,Ja,Bq,Au,Bt,Ar,Kx,Eo,Cj,Ei,G8,C0,Gb,G3,C5,Dd,Dv,E0,Qp,Um,Cu,E5,Aw,B4,Ez,Ad,Ac,Bn,Bg,Bb,argW,List.map_cons,List.map_nil,List.length_cons,List.length_nil,List.drop_zero,List.getElem?_cons_zero,bne_iff_ne,ne_eq,not_true_eq_false,Nat.reduceLT,Nat.reduceLeDiff,Nat.reduceEqDiff,Nat.reduceAdd,Int.reduceToNat,Int.reduceLE,true_and,Cc,↓reduceIte,reduceCtorEq,Nat.zero_add,Bool.true_and,Bool.or_true,Ox,Mm,Pa,M1,Kc,Jj,Lm,Nn])
    (repeat' (first | (exfalso;omega)|(refine iteI (fun h=>?_) (fun h=>?_))|(refine B1 (by first | omega | (simp (disch:=omega) only [Aa,Ak,Ai] at *;omega)) ?_;intro b hb)|(refine And.intro (by first | omega | (simp (disch:=omega) only [Aa,Ak,Ai] at *;omega)) ?_)|((first | (refine Ba hm (by rfl) (by kernel_rfl) ?_)|(refine Det.use (Jcc [] 5 s g e kids hkv) ?_)|(refine Det.useQ (Jcc [] 5 s g e kids hkv) ?_));simp only [Cb,Ah,Bm,Br,Cn,Ab,B3,Bd,A1,Mv,Kf,Bc,Bf,A0,Ca,E4,Aj,Jn,M7,Mq,O2,I4,Bl,Ja,Bq,Au,Ar,Lc,Eo,Cj,Ei,G8,C0,Gb,G3,C5,Dd,Dv,E0,Ag,Ae,A3,Bs,Cs,Cr,A6,A7,B9,Av,Ap,Al,B7,B5,Af,Am,Ao,Cy,Ay,Aw,A2,Ad,Ac,List.map_cons,List.map_nil,List.length_cons,List.length_nil,List.drop_succ_cons,List.drop_zero,List.getElem?_cons_zero,List.getElem?_cons_succ,decide_eq_true_eq,Nat.reduceLT,Nat.reduceLeDiff,Nat.reduceEqDiff,Nat.reduceAdd,Int.reduceToNat,Int.reduceLE,true_and,and_true,Cc,↓reduceIte,reduceCtorEq,Nat.zero_add,Bool.true_and,Bool.and_true,Bool.or_false,Ox,Mm,Kc,L6,Lb,Nn])|(exact True.intro)|(exfalso;omega)))
    all_goals rfl
  ·rw [Jcf hp hk,hn]
   have hpg:=hn
   (refine B2.of_code (X:=cx) false [] (by simp) Tryz.func59 (by kernel_rfl) rfl (by simp only [List.length_cons,List.length_nil,Tryz.ntmps59];decide) (by simp) ?_;refine Ax hm _ _ _ ?_;simp only [Tryz.ntmps59,Tryz.results59,Cb,Ah,Bm,Br,Cn,Ab,B3,Bd,A1,Bc,Ct,Bf,A0,Ca,E4,A9,Aj,B8,Ed,C8,Cv,Un,Bo,Bl,Ja,Bq,Au,Bt,Ar,Kx,Eo,Cj,Ei,G8,C0,Gb,G3,C5,Dd,Dv,E0,Qp,Um,Cu,E5,Ag,Ae,A3,Bs,Cs,Cr,A6,A7,B9,Av,Ap,Al,B7,B5,Af,Am,Ao,Cy,Ay,Aw,B4,Ez,A2,Ad,Ac,Bn,Bg,Bb,argW,List.map_cons,List.map_nil,List.length_cons,List.length_nil,List.drop_zero,List.getElem?_cons_zero,bne_iff_ne,ne_eq,Nat.reduceLT,Nat.reduceLeDiff,Nat.reduceEqDiff,Nat.reduceAdd,Int.reduceToNat,Int.reduceLE,true_and,and_true,Cc,↓reduceIte,reduceCtorEq,Nat.zero_add,Bool.true_and,Bool.and_true,Bool.or_true,Ox,Mm,Pa,M1,Kc,Jj,Lm,Nn])
   (repeat' (first | (refine iteI (fun h=>?_) (fun h=>?_))|(refine B1 (by first | omega | (simp (disch:=omega) only [Aa,Ak,Ai] at *;omega)) ?_;intro b hb)|(refine And.intro (by first | omega | (simp (disch:=omega) only [Aa,Ak,Ai] at *;omega)) ?_)|((first | (refine Ba hm (by rfl) (by kernel_rfl) ?_));simp only [Cb,Ah,Bm,Br,Cn,Ab,B3,Bd,A1,Mv,Kf,Bc,Bf,A0,Ca,E4,Aj,Jn,M7,Mq,O2,I4,Ot,Bl,Ja,Bq,Au,Ar,Lc,Eo,Cj,Ei,G8,C0,Gb,G3,C5,Dd,Dv,E0,Ag,Ae,A3,Bs,Cs,Cr,A6,A7,B9,Av,Ap,Al,B7,B5,Af,Am,Ao,Cy,Ay,Aw,A2,Ad,Ac,List.map_cons,List.map_nil,List.length_cons,List.length_nil,List.drop_succ_cons,List.drop_zero,List.getElem?_cons_zero,List.getElem?_cons_succ,decide_eq_true_eq,Nat.reduceLT,Nat.reduceLeDiff,Nat.reduceEqDiff,Nat.reduceAdd,Int.reduceToNat,Int.reduceLE,true_and,and_true,Cc,↓reduceIte,reduceCtorEq,Nat.zero_add,Bool.true_and,Bool.and_true,Bool.or_false,Ox,Mm,Kc,L6,Lb,Nn])|(exact True.intro)|(exfalso;omega)))
   all_goals rfl
end Go.LX
set_option maxRecDepth 100000
set_option maxHeartbeats 2000000
namespace Go.LX
open Go Go.RowKit Go.Proofs
attribute [local irreducible] B2 SWP Hb
def getT:List Step→Tree→Except Nat Tree
 | [],t=>.ok t
 | x :: p,t=>match inT t x with
  | .ok u=>getT p u
  | .error e=>.error e
theorem Joe:∀ {f:Forest} {p:List UInt8×Tree},p∈f.list→(p.2.enc []).length≤f.enc.length
 | .nil,p,h=>by cases h
 | .cons nm t r,p,h=>by
  rw [E9,List.length_append]
  rcases List.mem_cons.1 h with rfl | h
  ·simp only;rw [R8 t nm];omega
  ·have:=Joe h;omega
theorem Ta {name:List UInt8}:∀ {l:List (List UInt8×Tree)} {t:Tree},K9 name l=some t→∃ p∈l,p.2=t∧p.1=name
 | [],t,h=>by cases h
 | p :: l,t,h=>by
  rw [K9] at h
  split at h
  ·cases h;exact ⟨p,List.mem_cons_self,rfl,by assumption⟩
  ·obtain ⟨q,h1,h2⟩:=Ta h
   exact ⟨q,List.mem_cons_of_mem _ h1,h2⟩
theorem inT_mem {k:Int} {s:List UInt8} {g:Bool} {e:Int} {kids:Forest} {x:Step} {u:Tree} (h:inT (.mk k s g e kids) x=.ok u):∃ p∈kids.list,p.2=u:=by
 cases hp:x.part
 ·by_cases hk:k=6
  ·subst hk
   rw [Jj8 hp] at h
   cases hf:K9 x.name kids.list with
   | none=>rw [hf] at h;cases h
   | some t =>
    rw [hf] at h
    cases h
    obtain ⟨p,h1,h2,_⟩:=Ta hf
    exact ⟨p,h1,h2⟩
  ·rw [Jch hp hk] at h;cases h
 ·by_cases hk:k=5
  ·subst hk
   rw [Jkt hp] at h
   cases hf:kids.list[x.n.toNat]? with
   | none=>rw [hf] at h;cases h
   | some p =>
    rw [hf] at h
    cases h
    exact ⟨p,List.mem_of_getElem? hf,rfl⟩
  ·rw [Jcf hp hk] at h;cases h
theorem Jhq {t:Tree} {x:Step} {er:Nat} (h:inT t x=.error er):er=5∨er=6:=by
 cases t with
 | mk k s g e kids =>
  cases hp:x.part
  ·by_cases hk:k=6
   ·subst hk
    rw [Jj8 hp] at h
    cases hf:K9 x.name kids.list with
    | none=>rw [hf] at h;cases h;exact .inr rfl
    | some t=>rw [hf] at h;cases h
   ·rw [Jch hp hk] at h;cases h;exact .inl rfl
  ·by_cases hk:k=5
   ·subst hk
    rw [Jkt hp] at h
    cases hf:kids.list[x.n.toNat]? with
    | none=>rw [hf] at h;cases h;exact .inr rfl
    | some p=>rw [hf] at h;cases h
   ·rw [Jcf hp hk] at h;cases h;exact .inl rfl
theorem inT_le {t u:Tree} {x:Step} (h:inT t x=.ok u):(u.enc []).length+1≤(t.enc []).length:=by
 cases t with
 | mk k s g e kids =>
  obtain ⟨p,h1,rfl⟩:=inT_mem h
  have:=Joe h1
  rw [Gx,List.length_cons];omega
theorem d_Get (p:List Step) (t:Tree) (hp:p.length≤1000000) (hok:∀ x∈p,Fw x) (hv:(t.enc []).length≤1000000):Det cx 24 [.p (.sl (Gm p)),.p (.sl (valL (t.enc [])))] [] (getR (getT p t)) []:=by
 skip
 (refine B2.of_code (X:=cx) false [] (by simp) Tryz.func24 (by kernel_rfl) rfl (by simp only [List.length_cons,List.length_nil,Tryz.ntmps24];decide) (by simp) ?_;refine Ax hm _ _ _ ?_;simp only [Tryz.ntmps24,Tryz.results24,Ah,Bm,Ce,He,Ab,Bd,A1,Bc,Bf,A0,Ca,E4,A9,Aj,Dw,Ds,D4,Ad,Ac,argW,List.map_cons,List.map_nil,Nat.reduceLT,Cc,↓reduceIte,reduceCtorEq,Nat.zero_add,Ir,Dt])
 (repeat' (first | (refine iteI (fun h=>?_) (fun h=>?_))|(refine B1 (by first | omega | (simp (disch:=omega) only [Aa,Ak,Ai] at *;omega)) ?_;intro b hb)|(refine And.intro (by first | omega | (simp (disch:=omega) only [Aa,Ak,Ai] at *;omega)) ?_)|((first | (refine Ba hm (by rfl) (by kernel_rfl) ?_));simp only [Dh])|(exact True.intro)|(exfalso;omega)))
 refine SWP.loop (fun x:Nat×Tree=>⟨Fp 28 [(0,.p (.sl (Gm p))),(1,.p (.sl (valL (x.2.enc [])))),(10,.p (.sl (Gm p))),(11,.p (.int .i64 p.length)),(12,.p (.int .i64 x.1))],[]⟩) (fun x=>x.1≤p.length∧(x.2.enc []).length≤1000000∧getT (p.drop x.1) x.2=getT p t) (fun x=>p.length - x.1) (0,t) (St.le_slots (by simp only [Cd,Ck,Ac,Be,Aq,Nat.reduceEqDiff,reduceIte,Nat.reduceLT,Nat.reduceLeDiff];simp (disch:=omega) [Aq,A8,Cm,Aa] <;> (repeat' apply And.intro) <;> omega) (by simp (disch:=omega) [Dc,Ee,C9,Bj,Aq,A8,Cm,Aa]) (by simp [De])) ⟨Nat.zero_le _,hv,rfl⟩ ?_
 rintro ⟨i,u⟩ ⟨h1,h2,h3⟩
 simp only at h1 h2 h3
 by_cases hi:¬ i<p.length
 ·have c1:((i:Int)<(p.length:Int))=False:=eq_false (by omega)
  rw [show p.drop i=[] from List.drop_eq_nil_of_le (by omega),getT] at h3
  skip
  (refine Ax hm _ _ _ ?_;simp only [Ah,Bm,Br,Eh,Cn,Ab,Ci,B0,Bd,A1,Bc,Bf,A0,Ca,A9,Aj,B8,Bq,Au,Ar,Dm,Ag,Ae,A3,Bs,Cs,Cr,A6,A7,B9,Av,Ap,Al,B7,B5,Af,Am,Ao,Cy,Ay,A2,Ad,Ac,Dy,List.map_cons,List.map_nil,decide_eq_true_eq,Nat.reduceLT,Nat.reduceEqDiff,and_true,Cc,↓reduceIte,reduceCtorEq,Bool.and_true,Bool.or_false,c1])
  (repeat' (first | (refine iteI (fun h=>?_) (fun h=>?_))|(refine B1 (by first | omega | (simp (disch:=omega) only [Aa,Ak,Ai] at *;omega)) ?_;intro b hb)|(refine And.intro (by first | omega | (simp (disch:=omega) only [Aa,Ak,Ai] at *;omega)) ?_)|((first | (refine Ba hm (by rfl) (by kernel_rfl) ?_));simp only [Dh])|(exact True.intro)|(exfalso;omega)))
  rw [← h3];rfl
 ·have hi:=Decidable.not_not.1 hi
  obtain ⟨x,hx⟩:∃ x,p[i]? = some x:=⟨_,List.getElem?_eq_getElem hi⟩
  have hgx:=My hx
  have hdx:p.drop i=x :: p.drop (i+1):=by rw [List.drop_eq_getElem_cons hi];congr 1;rw [List.getElem?_eq_getElem hi] at hx;exact Option.some.inj hx
  have hok':=hok x (List.mem_of_getElem? hx)
  rw [hdx,getT] at h3
  have hin:=d_in u x h2 hok'
  have c1:((i:Int)<(p.length:Int))=True:=eq_true (by omega)
  cases hu:inT u x with
  | error er =>
   rw [hu] at hin h3
   unfold getR at hin
   skip
   (refine Ax hm _ _ _ ?_;simp only [Cb,Ah,Bm,Br,Ce,Ab,Bd,A1,Bc,C1,Ct,Bf,Ch,A9,B8,Ed,Fk,Cv,Hv,Cg,Bo,Bl,Bq,Au,Ar,Dm,Eo,Cj,Ei,Jb,C5,I6,F7,G1,Gy,Hw,Cu,E5,Iz,Fj,Ii,Ef,Ag,Ae,A3,Cf,Bv,Bi,Bz,Bx,A4,B6,Bh,Az,A5,Aw,B4,Cp,Ez,Jr,Cl,C7,El,Cz,F1,Ad,Ac,Bn,Bg,Bb,List.map_cons,List.map_nil,List.length_cons,List.length_nil,List.nil_append,List.append_nil,List.flatMap_cons,List.flatMap_nil,List.take_succ_cons,List.take_zero,List.take_nil,List.drop_succ_cons,List.drop_zero,List.drop_nil,decide_eq_true_eq,ne_eq,not_false_eq_true,Nat.reduceLT,Nat.reduceLeDiff,Nat.reduceEqDiff,Nat.reduceAdd,true_and,Cc,Bw,↓reduceIte,reduceCtorEq,Int.toNat_natCast,Int.natCast_nonneg,Nat.zero_add,Bool.true_and,Bool.or_false,J8,J0,Jm,Jy,c1,hgx,wi1 (i:=i) (by omega)])
   (repeat' (first | (refine iteI (fun h=>?_) (fun h=>?_))|(refine B1 (by first | omega | (simp (disch:=omega) only [Aa,Ak,Ai] at *;omega)) ?_;intro b hb)|(refine And.intro (by first | omega | (simp (disch:=omega) only [Aa,Ak,Ai] at *;omega)) ?_)|((first | (refine Ba hm (by rfl) (by kernel_rfl) ?_)|(refine Det.use (hin) ?_)|(refine Det.useQ (hin) ?_)|(refine Er.use (hin) ?_)|(refine Dp.use (hin) ?_));simp only [Cb,Ah,Bm,Br,Cn,Ab,B3,Bk,Ea,Bd,A1,Bc,Ct,Bf,A0,Ca,E4,A9,Aj,B8,Ek,Bl,Bq,Au,Bt,Ar,E8,Kx,G8,Eb,Ag,Ae,A3,Bp,Et,Bs,Cs,Cr,A6,A7,B9,Av,Ap,Al,B7,B5,Af,Am,Ao,Cy,Ay,Aw,A2,Ad,Ac,Dy,List.map_cons,List.map_nil,List.getElem?_cons_zero,List.getElem?_cons_succ,bne_iff_ne,ne_eq,Nat.reduceLT,Nat.reduceEqDiff,and_true,Cc,↓reduceIte,reduceCtorEq,Bool.and_true,Bool.or_true,wi1 (i:=i) (by omega)])|(exact True.intro)|(exfalso;omega)))
   ·rw [← h3];rfl
   ·have:=Jhq hu;omega
  | ok w =>
   rw [hu] at hin h3
   unfold getR at hin
   have hle:=inT_le hu
   (refine Ax hm _ _ _ ?_;simp only [Cb,Ah,Bm,Br,Ce,Ab,Bd,A1,Bc,C1,Ct,Bf,Ch,A9,B8,Ed,Fk,Cv,Hv,Cg,Bo,Bl,Bq,Au,Ar,Dm,Eo,Cj,Ei,Jb,C5,I6,F7,G1,Gy,Hw,Cu,E5,Iz,Fj,Ii,Ef,Ag,Ae,A3,Cf,Bv,Bi,Bz,Bx,A4,B6,Bh,Az,A5,Aw,B4,Cp,Ez,Jr,Cl,C7,El,Cz,F1,Ad,Ac,Bn,Bg,Bb,List.map_cons,List.map_nil,List.length_cons,List.length_nil,List.nil_append,List.append_nil,List.flatMap_cons,List.flatMap_nil,List.take_succ_cons,List.take_zero,List.take_nil,List.drop_succ_cons,List.drop_zero,List.drop_nil,decide_eq_true_eq,ne_eq,not_false_eq_true,Nat.reduceLT,Nat.reduceLeDiff,Nat.reduceEqDiff,Nat.reduceAdd,true_and,Cc,Bw,↓reduceIte,reduceCtorEq,Int.toNat_natCast,Int.natCast_nonneg,Nat.zero_add,Bool.true_and,Bool.or_false,J8,J0,Jm,Jy,c1,hgx,wi1 (i:=i) (by omega)])
   (repeat' (first | (refine iteI (fun h=>?_) (fun h=>?_))|(refine B1 (by first | omega | (simp (disch:=omega) only [Aa,Ak,Ai] at *;omega)) ?_;intro b hb)|(refine And.intro (by first | omega | (simp (disch:=omega) only [Aa,Ak,Ai] at *;omega)) ?_)|((first | (refine Ba hm (by rfl) (by kernel_rfl) ?_)|(refine Det.use (hin) ?_)|(refine Det.useQ (hin) ?_)|(refine Er.use (hin) ?_)|(refine Dp.use (hin) ?_));simp only [Cb,Ah,Bm,Br,Ab,Bk,Bd,A1,Bc,Ct,Bf,A0,Ca,A9,Aj,B8,Ek,Bl,Bq,Au,Bt,Ar,E8,Kx,G8,Eb,Bp,Et,Ad,Ac,Dy,List.map_cons,List.map_nil,List.getElem?_cons_zero,List.getElem?_cons_succ,bne_iff_ne,ne_eq,not_true_eq_false,Nat.reduceLT,Nat.reduceEqDiff,Cc,↓reduceIte,reduceCtorEq,Bool.or_true,wi1 (i:=i) (by omega)])|(exact True.intro)|(exfalso;omega)))
   exact ⟨(i+1,w),⟨by simp only;omega,by simp only;omega,h3⟩,by simp only;omega,(St.le_slots (by simp only [Cd,Ck,Ac,Be,Aq,Nat.reduceEqDiff,reduceIte,Nat.reduceLT,Nat.reduceLeDiff];simp (disch:=omega) [Aq,A8,Cm,Aa] <;> (repeat' apply And.intro) <;> omega) (by simp (disch:=omega) [Dc,Ee,C9,Bj,Aq,A8,Cm,Aa]) (by simp [De]))⟩
end Go.LX
namespace Go.LX
open Go Go.RowKit Go.Proofs
section
variable {X:Cx} {ro:Option Nat} {c:Code} {Q:Ex→St→Prop}
theorem SWP.spare {s:St} {d:Nat} {T:TypeId} {es:List (List PV)} (hd:Bj d s.regs=some (.row T 1 es)) (h0:0<es.length)
  (h:∀ k,SWP X ro c Q { s with regs:=Iy d (.lrow T 1 true (es.map (List.map L.p) ++ List.replicate k [L.junk])) s.regs }):SWP X ro c Q s:=by
 intro Γ a w hG ⟨ms,hdef,β,Im,hx⟩
 have hmem:=Dj hd
 rcases hx.fit.regs d _ hmem with ⟨_,rfl⟩ | ⟨loc,cur,hβ,hlz,hbk,hcl,hle,hml,hel,hcell⟩
 ·simp at h0
 refine h (loc.tot - es.length) Γ a w hG ⟨ms,hdef,β,Im,hx.store hmem hβ rfl rfl rfl rfl (fun _ _=>rfl) (.inr ?_)⟩
 have hll:(es.map (List.map L.p) ++ List.replicate (loc.tot - es.length) [L.junk]).length=loc.tot:=by simp;omega
 refine ⟨loc,cur,hβ,hlz,hbk,hcl,by rw [hll];exact Nat.le_refl _,fun _=>hll,hml,fun e he=>?_,fun i e j l hi hj=>?_⟩
 ·rcases List.mem_append.1 he with he | he
  ·obtain ⟨q,hq,rfl⟩:=List.mem_map.1 he
   rw [List.length_map];exact (hel q hq).1
  ·rw [List.eq_of_mem_replicate he];rfl
 ·by_cases hlt:i<es.length
  ·rw [List.getElem?_append_left (by simpa using hlt),List.getElem?_map] at hi
   obtain ⟨q,hq,rfl⟩:=Option.map_eq_some_iff.1 hi
   rw [List.getElem?_map] at hj
   obtain ⟨p,hp,rfl⟩:=Option.map_eq_some_iff.1 hj
   obtain ⟨v,hv,hr⟩:=hcell i q j p hq hp
   exact ⟨v,hv,hr,.inl ((hel q (List.mem_of_getElem? hq)).2 p (List.mem_of_getElem? hp))⟩
  ·rw [List.getElem?_append_right (by simpa using hlt)] at hi
   simp only [List.length_map] at hi
   obtain ⟨hi1,rfl⟩:=List.getElem?_eq_some_iff.1 hi
   simp only [List.length_replicate] at hi1
   simp only [List.getElem_replicate] at hj
   have hj0:j=0:=by have:=(List.getElem?_eq_some_iff.1 hj).1;simp at this;exact this
   subst hj0
   simp at hj
   subst hj
   have hc:i * 1+0<cur.length:=by rw [hcl];omega
   exact ⟨_,List.getElem?_eq_getElem hc,trivial,.inr rfl⟩
theorem Uw:∀ es:List (List PV),Kr (es.map (List.map L.p))=some es
 | []=>rfl
 | e :: es=>by
  have h:∀ e:List PV,Gv L.pure? (e.map L.p)=some e:=by
   intro e
   induction e with
   | nil=>rfl
   | cons p e ih=>simp only [List.map_cons,Gv,L.pure?,ih]
  simp only [List.map_cons,Kr,h,Uw es]
theorem Q4 {es:List (List PV)} {r:List (List L)} {n:Nat} (h:n≤es.length):Kr ((es.map (List.map L.p) ++ r).take n)=some (es.take n):=by
 rw [List.take_append_of_le_length (by simpa using h),← List.map_take,Uw]
theorem Yp {es:List (List PV)} {r:List (List L)} {o n:Nat} (h:o+n≤es.length):Kr (((es.map (List.map L.p) ++ r).drop o).take n)=some ((es.drop o).take n):=by
 rw [List.drop_append_of_le_length (by simp;omega),List.take_append_of_le_length (by simp;omega),← List.map_drop,← List.map_take,Uw]
end
end Go.LX
namespace Go.LX
open Go Go.RowKit Go.Proofs
theorem Jj4 {X:Cx} {f:FuncId} {fn:Func} {tS tR e:TypeId} (hf:X.P.funcs[f]? = some fn) (hname:(fn.name == "runtime.NumGoroutine")=false) (hb:fn.body.isNone=true) (hn:Extern.findNext fn=none)
  (he:Extern.find fn=some (Extern.SlicesOverlaps.overlaps #[tS,tS] #[tR])) (ht:slE X.P tS=some (e,1)) {rs:Regs} {d1 o1 n1 d2 o2 n2:Nat} {T1 T2:TypeId} {es1:List (List PV)} {f2:Bool} {es2:List (List L)}
  (h1:Bj d1 rs=some (.row T1 1 es1)) (h2:Bj d2 rs=some (.lrow T2 1 f2 es2)) (hne:d1≠d2) (hp1:0<es1.length) (hp2:0<es2.length):Dp X f [.own d1 o1 n1,.own d2 o2 n2] rs (.p (.bool false)):=by
 intro β Im w vs hfit
 obtain ⟨v,u,rfl,r1,r2⟩:=fit2 hfit
 have m1:=Dj h1
 have m2:=Dj h2
 obtain ⟨ht0,hcs,h0⟩:=Na ht
 rcases hfit.regs d1 _ m1 with ⟨_,rfl⟩ | ⟨l1,c1,b1,z1,k1,q1,y1,-⟩
 ·simp at hp1
 rcases hfit.regs d2 _ m2 with ⟨_,rfl⟩ | ⟨l2,c2,b2,z2,k2,q2,y2,-⟩
 ·simp at hp2
 rcases r1 with ⟨l1',cap1,a1,b1',_,_,_,rfl⟩ | ⟨hn1,_⟩
 rotate_left
 ·rw [b1] at hn1;cases hn1
 rcases r2 with ⟨l2',cap2,a2,b2',_,_,_,rfl⟩ | ⟨hn2,_⟩
 rotate_left
 ·rw [b2] at hn2;cases hn2
 rw [b1] at b1';cases b1'
 rw [b2] at b2';cases b2'
 have hap:=hfit.apart d1 _ d2 _ l1 l2 m1 m2 hne b1 b2
 refine ⟨.bool false,?_,PRep.bool _⟩
 rw [run_callFunc_extern hf hname hb hn he,
  Lib.run_overlaps_apart w tS tR e ht0 1 (fun w=>Hg (P:=X.P) hcs (by decide) w) ⟨l1.blk,a1,none⟩ ⟨l2.blk,a2,none⟩ n1 cap1 n2 cap2 hap T1 T2 c1.length c2.length (by simp [World.shape?,k1]) (by simp [World.shape?,k2]) (by omega) (by simp [World.frozen?,k1]) (by simp [World.frozen?,k1])]
 rfl
theorem B2.trunc {X:Cx} {f:FuncId} {args:List L} {rs rest:Regs} {l:L} {T:TypeId} {es:List (List PV)} (n:Nat)
  (h:B2 X f args rs fun m q=>m=l∧(q=(900,.row T 1 es) :: rest∨∃ b ls,q=(900,.lrow T 1 b ls) :: rest∧Kr (ls.take n)=some es)):Det X f args rs l ((900,.row T 1 es) :: rest):=by
 refine ⟨h.1,fun β Im w vs hg hf=>(h.2 β Im w vs hg hf).mono fun e w' ⟨v,m,rs',β',Im',he,⟨hm,hq⟩,hr,hc⟩=>?_⟩
 rcases hq with rfl | ⟨b,ls,rfl,hp⟩
 ·exact ⟨v,m,_,β',Im',he,⟨hm,rfl⟩,hr,hc⟩
 ·refine ⟨v,m,_,β',Im',he,⟨hm,rfl⟩,hr,?_⟩
  obtain ⟨pl,pp⟩:=Ny hp
  have hf':=hc.fit
  have key:∀ d r,(d,r)∈(900,Reg.row T 1 es) :: rest→∃ r',(d,r')∈(900,Reg.lrow T 1 b ls) :: rest:=by
   intro d r hd
   rcases List.mem_cons.1 hd with hd | hd
   ·cases hd;exact ⟨_,List.mem_cons_self⟩
   ·exact ⟨r,List.mem_cons_of_mem _ hd⟩
  have hreg:K5 β' w' Im' 900 (.row T 1 es):=by
   rcases hf'.regs 900 _ List.mem_cons_self with ⟨hn,rfl⟩ | ⟨loc,cur,hβ,hlz,hbk,hcl,hle,hfu,hml,hel,hcell⟩
   ·refine .inl ⟨hn,List.eq_nil_of_length_eq_zero (by simpa using pl.symm)⟩
   ·have key:∀ (i:Nat) (q:List PV),es[i]? = some q→∃ e,ls[i]? = some e∧e.length=q.length∧∀ (j:Nat) (p:PV),q[j]? = some p→e[j]? = some (.p p):=by
     intro i q hq
     obtain ⟨e,he,ha⟩:=pp i q hq
     have he':ls[i]? = some e:=by
      rw [List.getElem?_take] at he
      split at he
      ·exact he
      ·cases he
     obtain ⟨al,ag⟩:=Ha ha
     refine ⟨e,he',al,fun j p hj=>?_⟩
     obtain ⟨l,hl'⟩:=getElem?_of_length al hj
     have h1:=ag j l p hl' hj
     cases l <;> simp [L.pure?] at h1
     subst h1
     exact hl'
    refine .inr ⟨loc,cur,hβ,hlz,hbk,hcl,by rw [← pl,List.length_take];omega,hml,fun q hq=>?_,fun i q j p hi hj=>?_⟩
    ·obtain ⟨i,hi,rfl⟩:=List.getElem_of_mem hq
     obtain ⟨e,he,h1,h2⟩:=key i _ (List.getElem?_eq_getElem hi)
     refine ⟨by rw [← h1];exact hel e (List.mem_of_getElem? he),fun p hp=>?_⟩
     obtain ⟨j,hj,rfl⟩:=List.getElem_of_mem hp
     obtain ⟨v,_,_,hco⟩:=hcell i e j _ he (h2 j _ (List.getElem?_eq_getElem hj))
     rcases hco with hco | hco
     ·exact hco
     ·cases hco
    ·obtain ⟨e,he,h1,h2⟩:=key i q hi
     obtain ⟨v,hv,hr,_⟩:=hcell i e j _ he (h2 j p hj)
     exact ⟨v,hv,hr⟩
  refine { hc with keys:=fun d r hd=>(key d r hd).elim fun r' h'=>hc.keys d r' h',regnew:=fun d r loc hd hl=>(key d r hd).elim fun r' h'=>hc.regnew d r' loc h' hl,fit:={ size:=hf'.size,tmps:=hf'.tmps,im:=hf'.im,regs:=fun d r hd=>?_,nodup:=hf'.nodup,live:=fun d r loc hd hl=>(key d r hd).elim fun r' h'=>hf'.live d r' loc h' hl,apart:=fun d r d' r' l1 l2 hd hd' hne h1 h2=>(key d r hd).elim fun r1 h1'=>(key d' r' hd').elim fun r2 h2'=>hf'.apart d r1 d' r2 l1 l2 h1' h2' hne h1 h2 } }
  rcases List.mem_cons.1 hd with hd | hd
  ·cases hd;exact hreg
  ·exact hf'.regs d r (List.mem_cons_of_mem _ hd)
theorem B2.sub {X:Cx} {f:FuncId} {args:List L} {rs:Regs} {Post Post':L→Regs→Prop} (h:B2 X f args rs Post) (hp:∀ m q,Post m q→∃ q0,q0.Sublist q∧Post' m q0):B2 X f args rs Post':=by
 refine ⟨h.1,fun β Im w vs hg hf=>(h.2 β Im w vs hg hf).mono fun e w' ⟨v,m,rs',β',Im',he,hP,hr,hc⟩=>?_⟩
 obtain ⟨q0,hs,hP'⟩:=hp m rs' hP
 have hf':=hc.fit
 have key:∀ d r,(d,r)∈q0→(d,r)∈rs':=fun d r hd=>hs.subset hd
 exact ⟨v,m,q0,β',Im',he,hP',hr,{ hc with keys:=fun d r hd=>hc.keys d r (key d r hd),regnew:=fun d r loc hd hl=>hc.regnew d r loc (key d r hd) hl,fit:={ size:=hf'.size,tmps:=hf'.tmps,im:=hf'.im,regs:=fun d r hd=>hf'.regs d r (key d r hd),nodup:=hf'.nodup.sublist (hs.map _),live:=fun d r loc hd hl=>hf'.live d r loc (key d r hd) hl,apart:=fun d r d' r' l1 l2 hd hd' hne h1 h2=>hf'.apart d r d' r' l1 l2 (key d r hd) (key d' r' hd') hne h1 h2 } }⟩
theorem V8 {f:L→L} (hp:∀ p,f (.p p)=.p p) (hj:f .junk=.junk) (es:List (List PV)) (k:Nat):List.map (fun e=>List.map f e) (es.map (List.map L.p) ++ List.replicate k [L.junk])=es.map (List.map L.p) ++ List.replicate k [L.junk]:=by
 rw [List.map_append,List.map_map,List.map_replicate]
 have h1:(fun e=>List.map f e) ∘ List.map L.p=List.map L.p:=by
  funext e
  simp only [Function.comp,List.map_map]
  congr 1
  funext p
  exact hp p
 rw [h1]
 simp [hj]
theorem Jlj {es:List (List PV)} {i k:Nat} (hi:i<es.length) (hk:k≠0) :
  (es.map (List.map L.p) ++ List.replicate k [L.junk]).take (i+1) ++ (es.drop i).map (List.map L.p) ++ (es.map (List.map L.p) ++ List.replicate k [L.junk]).drop (i+1+(es.length - i))=(es.take (i+1) ++ es.drop i).map (List.map L.p) ++ List.replicate (k - 1) [L.junk]:=by
 rw [List.take_append_of_le_length (by simp;omega),show i+1+(es.length - i)=(es.map (List.map L.p)).length+1 by simp;omega,List.drop_append,List.drop_eq_nil_of_le (show (es.map (List.map L.p)).length≤(es.map (List.map L.p)).length+1 by omega),List.nil_append,List.drop_replicate,List.map_append,List.map_take]
 congr 2;simp
theorem Jke {es:List (List PV)} {i k:Nat} {q:List PV} (hi:i<es.length) :
  ((es.take (i+1) ++ es.drop i).map (List.map L.p) ++ List.replicate k [L.junk]).take i ++ [q.map L.p] ++ ((es.take (i+1) ++ es.drop i).map (List.map L.p) ++ List.replicate k [L.junk]).drop (i+1)=(es.take i ++ [q] ++ es.drop i).map (List.map L.p) ++ List.replicate k [L.junk]:=by
 rw [List.take_append_of_le_length (by simp;omega),List.drop_append_of_le_length (by simp;omega),← List.map_take,← List.map_drop,List.take_append_of_le_length (by simp;omega),List.drop_append_of_le_length (by simp;omega),List.take_take,List.drop_eq_nil_of_le (show (es.take (i+1)).length≤i+1 by simp;omega),Nat.min_eq_left (by omega)]
 simp
def isSl:Option TypeDesc→Prop
 | some (.slice _)=>True
 | _=>False
theorem Jay {e:TypeId}:isSl (some (.slice e))=True:=(rfl)
def capR (off:Nat) (K:L→Prop):Option Reg→Prop
 | some (.lrow _ _ true es)=>K (.p (.int .i64 (es.length - off:Nat)))
 | _=>False
def capV (regs:Regs) (K:L→Prop):L→Prop
 | .p .snil=>K (.p (.int .i64 0))
 | .own d off _=>capR off K (Bj d regs)
 | _=>False
theorem Jhg {P:Program} {r:Regs} {t:List L} {o:Operand} {ty:TypeId} {K:L→Prop}:lqvK P r ⟨t,r⟩ (.call { callee:=.builtin .cap,args:=#[o],argTypes:=#[ty] }) K=(isSl (P.underlying ty)∧capV r K ((St.mk t r).get o)):=by
 have h1:(∃ e,P.underlying ty=some (.slice e)) ↔ isSl (P.underlying ty):=by
  unfold isSl
  split
  ·rename_i e h;exact ⟨fun _=>trivial,fun _=>⟨e,h⟩⟩
  ·rename_i h;exact ⟨fun ⟨k,hk⟩=>h k hk,fun h=>h.elim⟩
 unfold lqvK lqv
 simp only [h1]
 apply pe
 constructor
 ·rintro ⟨l,⟨h,h'⟩,hK⟩
  refine ⟨h,?_⟩
  split at h'
  ·rename_i hg;rw [hg];subst h';exact hK
  ·rename_i d off n hg
   rw [hg]
   show capR off K (Bj d r)
   split at h'
   ·rename_i T sz es hr;rw [hr];subst h';exact hK
   ·exact h'.elim
  ·exact h'.elim
 ·rintro ⟨h,hK⟩
  unfold capV at hK
  split at hK
  ·rename_i hg;rw [hg];exact ⟨_,⟨h,rfl⟩,hK⟩
  ·rename_i d off n hg
   rw [hg]
   unfold capR at hK
   split at hK
   ·rename_i T sz es hr;simp only [hr];exact ⟨_,⟨h,rfl⟩,hK⟩
   ·exact hK.elim
  ·exact hK.elim
theorem Jiy {r:Regs} {K:L→Prop} {d off n:Nat}:capV r K (.own d off n)=capR off K (Bj d r):=(rfl)
theorem Jh1 {off:Nat} {K:L→Prop} {T sz:Nat} {es:List (List L)}:capR off K (some (.lrow T sz true es))=K (.p (.int .i64 (es.length - off:Nat))):=(rfl)
end Go.LX
