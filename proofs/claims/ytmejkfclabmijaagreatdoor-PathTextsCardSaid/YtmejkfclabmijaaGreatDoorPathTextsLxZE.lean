/- Values, the document's answer: objects. -/
import Derived.Test.YtmejkfclabmijaaGreatDoorPathTextsLxZD
import Derived.Test.YtmejkfclabmijaaGreatDoorPathTextsLxM
import Derived.Test.YtmejkfclabmijaaGreatDoorPathTextsLxP
set_option linter.unusedSimpArgs false
set_option linter.unusedVariables false
set_option linter.unusedSectionVars false
set_option linter.unnecessarySimpa false
set_option maxRecDepth 100000
set_option maxHeartbeats 2000000
namespace Go.LX
open Go Go.RowKit Go.Proofs
attribute [local irreducible] B2 SWP Hb
open Classical in
noncomputable def Y1 (l:List KT):Bool:=decide ((∀ p∈l,valid p.1=true)∧(l.map (·.1)).Nodup)
noncomputable def objR (l:List KT):L:=if Y1 l=true then .tup [.sl (valL ((Tree.mk 6 [] false 0 (Ej (Xv l))).enc [])),.int .i64 0] else .tup [.snil,.int .i64 4]
def Vy (D:List Bool):List (List PV):=D.map fun b=>[.bool b]
theorem Sp {a b:List KT} (h:a.Perm b):(Ej a).enc.length=(Ej b).enc.length:=by
 induction h with
 | nil=>rfl
 | cons x _ ih=>simp only [Ej,E9,List.length_append,ih]
 | swap x y l=>simp only [Ej,E9,List.length_append];omega
 | trans _ _ h1 h2=>exact h1.trans h2
theorem Jj9 (l:List KT) (hv:(Ej l).enc.length≤900000) (hs:∀ p∈l,p.1.length≤1000000):Det cx 105 [.p (.sl (Gd l)),.p (.sl (E3 l))] [] (objR l) []:=by
 have hll:=Forest.len_le (Ej l)
 rw [Kk] at hll
 have rep:List.replicate l.length [PV.bool false]=Vy (List.replicate l.length false):=by simp [Vy]
 have cz:((0:Int)≤(l.length:Int))=True:=eq_true (by omega)
 skip
 (refine B2.of_code (X:=cx) false [] (by simp) Tryz.func105 (by kernel_rfl) rfl (by simp only [List.length_cons,List.length_nil,Tryz.ntmps105];decide) (by simp) ?_;refine Ax hm _ _ _ ?_;simp only [Tryz.ntmps105,Tryz.results105,Cb,Ah,Bm,Br,Ce,He,Ab,Bd,A1,Bc,Ct,Bf,A0,Ca,E4,A9,Aj,B8,Dw,Df,Jbf,Bo,Bq,Au,Ar,Kx,Ds,D4,Cu,Ag,u_kmk,Jst,Jbb,u_mkT,Ht,Ji,Il,Dg,Jg,Gp,Hu,B4,C4,Fy,Ez,Ga,Ad,Ac,Bn,Bg,Bb,argW,List.map_cons,List.map_nil,List.length_cons,List.length_nil,bne_iff_ne,ne_eq,not_true_eq_false,Nat.reduceLT,Nat.reduceLeDiff,Nat.reduceEqDiff,Nat.reduceMul,Int.reduceNeg,true_and,Cc,↓reduceIte,reduceCtorEq,Int.toNat_natCast,Nat.zero_add,Bool.true_and,Bool.or_false,f_z4,f_b4,W6,Ph,Ps,Lx,M4,Ln,Va,Gc,Fo,rep,cz])
 (repeat' (first | (refine iteI (fun h=>?_) (fun h=>?_))|(refine B1 (by first | omega | (simp (disch:=omega) only [Aa,Ak,Ai] at *;omega)) ?_;intro b hb)|(refine And.intro (by first | omega | (simp (disch:=omega) only [Aa,Ak,Ai] at *;omega)) ?_)|((first | (refine Ba hm (by rfl) (by kernel_rfl) ?_));simp only [Dh])|(exact True.intro)|(exfalso;omega)))
 refine SWP.of_le (Jh [(16,86),(17,93)] _ (by simp)) ?_
 simp only [Bu,Fn,Di,B6,D2,Ey,Af,C3,Gj,Fl,D8,Dr,Du,Cq,Bg,Bb,Nat.reduceEqDiff,Int.reduceNeg,↓reduceIte]
 refine SWP.loop (fun x:List KT×List Bool=>⟨Fp 97 [(0,.p (.sl (Gd l))),(1,.p (.sl (E3 l))),(6,.own 86 0 x.1.length),(7,.own 93 0 x.1.length),(8,.own 20 0 l.length)],[(20,.row 4 1 (Vy x.2)),(93,.row 34 1 (E3 x.1)),(86,.row 9 1 (Gd x.1))]⟩) (fun x=>Picks l x.1 x.2∧(∀ p∈x.1,valid p.1=true)∧x.1.length≤l.length) (fun x=>l.length - x.1.length) ([],List.replicate l.length false) (St.le_slots (by simp only [Cd,Ck,Ac,Be,Aq,Nat.reduceEqDiff,reduceIte,Nat.reduceLT,Nat.reduceLeDiff];simp (disch:=omega) [Aq,A8,Cm,Aa] <;> (repeat' apply And.intro) <;> omega) (by simp (disch:=omega) [Dc,Ee,C9,Bj,Aq,A8,Cm,Aa]) (by simp [De])) ⟨Picks.start l,by simp,Nat.zero_le _⟩ ?_
 rintro ⟨S,D⟩ ⟨hP,hV,hS⟩
 simp only at hP hV hS
 have hDl:=hP.len
 by_cases hlt:¬ S.length<l.length
 ·have c1:((S.length:Int)<(l.length:Int))=False:=eq_false (by omega)
  have hSl:S.length=l.length:=by omega
  have hPm:=hP.done hSl
  have hOK:Y1 l=true:=by
   unfold Y1
   rw [decide_eq_true_eq]
   exact ⟨fun p hp=>hV p (hPm.mem_iff.2 hp),(hPm.map (·.1)).nodup_iff.1 hP.rise.nodup⟩
  have hso:Xv l=S:=U0 (Vh ((hPm.map (·.1)).nodup_iff.1 hP.rise.nodup)) hP.rise ((Oz l).trans hPm.symm)
  have tn:(Gd S).take S.length=Gd S:=List.take_of_length_le (by rw [Gc];omega)
  have tp:(E3 S).take S.length=E3 S:=List.take_of_length_le (by rw [Fo];omega)
  have ln:(S.length≤S.length)=True:=eq_true (Nat.le_refl _)
  have lp:=ln
  skip
  (refine Ax hm _ _ _ ?_;simp only [Ah,Bm,Br,Eh,Ab,Ci,B0,Bd,A1,Bc,Bf,Ch,A9,B8,Dw,Cg,Bq,Au,Ar,Dm,Ds,D4,F3,Ag,Ae,E6,Fu,En,F4,Cf,Bv,Bi,Bz,Bx,A4,B6,Bh,Az,A5,Aw,Dx,Dk,N8,I9,G9,Cl,Ad,Ac,C6,Bg,Bb,Dy,List.map_cons,List.map_nil,List.append_nil,List.flatMap_cons,List.flatMap_nil,List.drop_zero,decide_eq_true_eq,Nat.reduceLT,Nat.reduceEqDiff,Int.reduceNeg,Cc,Bw,↓reduceIte,reduceCtorEq,Nat.zero_add,Bool.or_false,M4,Gc,Fo,c1,tn,tp,ln])
  (repeat' (first | (refine iteI (fun h=>?_) (fun h=>?_))|(refine B1 (by first | omega | (simp (disch:=omega) only [Aa,Ak,Ai] at *;omega)) ?_;intro b hb)|(refine And.intro (by first | omega | (simp (disch:=omega) only [Aa,Ak,Ai] at *;omega)) ?_)|((first | (refine Ba hm (by rfl) (by kernel_rfl) ?_)|(refine Det.use (Ua S (by rw [Sp hPm];omega)) ?_)|(refine Det.useQ (Ua S (by rw [Sp hPm];omega)) ?_));simp only [Cn,Ab,Bd,A1,Bc,Ct,Bf,A0,Ca,Aj,Ag,Ae,A3,Bp,B6,Bs,Cs,Cr,A6,A7,B9,Av,Ap,Al,B7,B5,Af,Am,Ao,Cy,Ay,Aw,A2,Ad,Ac,Nat.reduceLT,Nat.reduceEqDiff,and_true,↓reduceIte,Bool.and_true])|(exact True.intro)|(exfalso;omega)))
  unfold objR
  rw [if_pos hOK,hso]
 ·have hlt:=Decidable.not_not.1 hlt
  have c1:((S.length:Int)<(l.length:Int))=True:=eq_true (by omega)
  have tn:=c1
  have tp:=c1
  have ln:=c1
  have lp:=c1
  (refine Ax hm _ _ _ ?_;simp only [Cb,Ah,Bm,Br,Ce,He,Ab,Bd,A1,Bc,Bf,A0,Ca,A9,Aj,B8,Dw,Bq,Au,Ar,Dm,Ds,D4,F3,Ad,Ac,List.map_cons,List.map_nil,decide_eq_true_eq,Nat.reduceLT,Nat.reduceEqDiff,Int.reduceNeg,Cc,↓reduceIte,reduceCtorEq,Bool.or_false,M4,Gc,c1])
  refine SWP.loop (fun x:Nat×Int=>⟨Fp 97 [(0,.p (.sl (Gd l))),(1,.p (.sl (E3 l))),(6,.own 86 0 S.length),(7,.own 93 0 S.length),(8,.own 20 0 l.length),(9,.p (.int .i64 x.2)),(10,.p (.int .i64 x.1))],[(20,.row 4 1 (Vy D)),(93,.row 34 1 (E3 S)),(86,.row 9 1 (Gd S))]⟩) (fun x=>x.1≤l.length∧((x.2 = -1∧∀ j,j<x.1→D[j]? = some true)∨∃ b:Nat,x.2=b∧b<x.1∧D[b]? = some false∧∃ p,l[b]? = some p∧∀ (j:Nat) (q:KT),j<x.1→l[j]? = some q→D[j]? = some false→nle p.1 q.1)) (fun x=>l.length - x.1) (0,-1) (St.le_slots (by simp only [Cd,Ck,Ac,Be,Aq,Nat.reduceEqDiff,reduceIte,Nat.reduceLT,Nat.reduceLeDiff];simp (disch:=omega) [Aq,A8,Cm,Aa] <;> (repeat' apply And.intro) <;> omega) (by simp (disch:=omega) [Dc,Ee,C9,Bj,Aq,A8,Cm,Aa]) (by simp [De])) ⟨Nat.zero_le _,.inl ⟨rfl,fun j h=>by omega⟩⟩ ?_
  rintro ⟨i,z⟩ ⟨hi,hz⟩
  simp only at hi hz
  by_cases hin:¬ i<l.length
  ·have c2:((i:Int)<(l.length:Int))=False:=eq_false (by omega)
   obtain rfl:i=l.length:=by omega
   rcases hz with ⟨_,hz⟩ | ⟨b,rfl,hb,hDb,p,hp,hm'⟩
   ·have:=Jkl (D:=D) (fun j hj=>hz j (by omega))
    have:=hP.cnt
    omega
   ·have hgn:(Gd l)[b]? = some [.str p.1]:=by simp [Gd,hp]
    have hgp:(E3 l)[b]? = some [.sl (valL (p.2.enc []))]:=by simp [E3,hp]
    have hgD:(Vy D)[b]? = some [.bool false]:=by simp [Vy,hDb]
    have hmm:∀ (j:Nat) (q:KT),l[j]? = some q→D[j]? = some false→nle p.1 q.1:=fun j q h1 h2=>hm' j q (List.getElem?_eq_some_iff.1 h1).1 h1 h2
    have hpm:=List.mem_of_getElem? hp
    have hbs:(Vy D).set b [.bool true]=Vy (D.set b true):=by simp [Vy,List.map_set]
    have hpn:∀ (S:List KT),Gd S ++ [[.str p.1]]=Gd (S ++ [p]):=fun S=>by simp [Gd]
    have hpp:∀ (S:List KT),E3 S ++ [[.sl (valL (p.2.enc []))]]=E3 (S ++ [p]):=fun S=>by simp [E3]
    have w1:IntKind.i64.wrap ((S.length:Int) - 1)=(S.length:Int) - 1:=Aa (by omega) (by omega)
    cases hvp:valid p.1 with
    | false =>
     have hOK:Y1 l=false:=by
      unfold Y1
      rw [decide_eq_false_iff_not]
      rintro ⟨h,_⟩
      rw [h p hpm] at hvp;cases hvp
     have hgl:=c2
     have hgl2:=c2
     have c8:=c2
     have hbq:=c2
     skip
     (refine Ax hm _ _ _ ?_;simp only [Ah,Bm,Br,Eh,Ab,Ci,B0,Bd,A1,Bc,Bf,A9,B8,Dw,Ja,Bq,Au,Ar,Dm,Ds,D4,Ad,Ac,Dy,List.map_cons,List.map_nil,decide_eq_true_eq,Nat.reduceLT,Nat.reduceEqDiff,Int.reduceNeg,Cc,↓reduceIte,reduceCtorEq,Bool.or_false,M4,Gc,c2])
     (repeat' (first | (refine And.intro (by first | omega | (simp;done)|(simp;omega)) ?_)))
     refine Ba hm (by rfl) (by kernel_rfl) ?_
     simp only [Kf,Bc,Bf,Jn,Mq,I4,Ot,Bl,Eo,Cj,Ei,G8,C5,Dd,Ad,Ac,List.map_cons,List.map_nil,List.length_cons,List.length_nil,List.getElem?_cons_zero,Nat.reduceLT,Nat.reduceEqDiff,true_and,Cc,↓reduceIte,reduceCtorEq,Int.toNat_natCast,Int.natCast_nonneg,Nat.zero_add,Bool.true_and,L5,Kg,Ln,hgn]
     refine Det.useQ (Rg p.1 (hs p hpm)) ?_
     simp only [Ah,Bm,Br,Cn,Ab,B3,Ea,Bd,A1,Mv,Kf,M3,Bc,D9,Bf,A0,Cw,Ca,E4,Aj,Jn,Jby,Pd,Bq,C2,Dq,D1,J2,Dn,J7,Ag,Ae,A3,Bs,Cs,Cr,A6,A7,B9,Av,Ap,Al,B7,B5,Af,Am,Ao,Cy,Ay,Aw,A2,Ad,Ac,Dy,List.map_cons,List.map_nil,List.getD_cons_zero,List.getD_cons_succ,Nat.reduceLT,Nat.reduceEqDiff,and_true,↓reduceIte,Bool.not_false,Bool.and_true,hvp]
     (repeat' (first | (refine And.intro (by first | omega | (simp;done)|(simp;omega)) ?_)))
     unfold objR
     rw [hOK];simp
    | true =>
     cases hg:S.getLast? with
     | none =>
      have hS0:S=[]:=List.getLast?_eq_none_iff.1 hg
      subst hS0
      have hgl:=c2
      have hgl2:=c2
      have c8:((0:Int)<((0:Nat):Int))=False:=by simp
      have hbq:=c2
      have hN:=hP.next hp hDb hmm (fun q hq=>by simp at hq)
      (refine Ax hm _ _ _ ?_;simp only [Ah,Bm,Br,Eh,Ab,Ci,B0,Bd,A1,Bc,Bf,A9,B8,Dw,Ja,Bq,Au,Ar,Dm,Ds,D4,Ad,Ac,Dy,List.map_cons,List.map_nil,List.length_nil,decide_eq_true_eq,Nat.reduceLT,Nat.reduceEqDiff,Int.reduceNeg,Cc,↓reduceIte,reduceCtorEq,Bool.or_false,M4,Gc,c2])
      (repeat' (first | (refine And.intro (by first | omega | (simp;done)|(simp;omega)) ?_)))
      refine Ba hm (by rfl) (by kernel_rfl) ?_
      simp only [Kf,Bc,Bf,Jn,Mq,I4,Ot,Bl,Eo,Cj,Ei,G8,C5,Dd,Ad,Ac,List.map_cons,List.map_nil,List.length_cons,List.length_nil,List.getElem?_cons_zero,Nat.reduceLT,Nat.reduceEqDiff,true_and,Cc,↓reduceIte,reduceCtorEq,Int.toNat_natCast,Int.natCast_nonneg,Nat.zero_add,Bool.true_and,L5,Kg,Ln,hgn]
      refine Det.useQ (Rg p.1 (hs p hpm)) ?_
      simp only [Cb,Ah,Bm,Br,Ab,Bk,Bd,A1,Mv,Kf,M3,Jep,Bc,D9,C1,Ct,Bf,A0,Cw,Ca,A9,Aj,Ed,Fk,Cv,Df,F8,Jn,M7,Jby,Pd,Jfx,Bo,Bl,Bq,C2,Dq,Db,D1,Dn,Au,Bt,Ar,Je,J7,Ds,F3,Eo,Cj,Ei,Lj,Lg,G8,C5,Dd,Cu,G6,Tc,Lh,Mj,Vs,Vw,Vr,Sf,Fj,Ii,Oy,Ag,Ae,A3,Ht,Ji,Il,Dg,Jg,Gp,Gr,Gs,Gu,Hu,Ho,Hc,F5,G5,E1,Gg,Kz,F2,Jk,Aw,B4,C4,Cp,Fy,Ez,G7,Ks,Jr,H8,Ga,C7,El,Cz,F1,Ad,Ac,Bn,Bg,Bb,Dy,List.map_cons,List.map_nil,List.getD_cons_zero,List.getD_cons_succ,List.length_cons,List.length_nil,List.nil_append,List.append_nil,List.take_succ_cons,List.take_zero,List.take_nil,List.drop_succ_cons,List.drop_zero,List.drop_nil,List.getElem?_cons_zero,decide_eq_true_eq,ne_eq,not_false_eq_true,Nat.reduceLT,Nat.reduceLeDiff,Nat.reduceEqDiff,Nat.reduceMul,true_and,Cc,↓reduceIte,reduceCtorEq,Int.toNat_natCast,Int.natCast_nonneg,Nat.zero_add,Bool.not_true,Bool.false_eq_true,Bool.true_and,Bool.and_true,Bool.or_true,beq_self_eq_true,M1,L5,Kg,W6,Jfr,Q1,Ng,Ph,Ul,Lx,M4,Ln,Va,Gc,Fo,hgn,hgp,hgD,hbs,hpn,hpp,hvp,c8]
      (repeat' (first | (refine And.intro (by first | omega | (simp;done)|(simp;omega)) ?_)))
      exact ⟨([p],D.set b true),⟨hN,by simp [hvp],by simp;omega⟩,by simp;omega,(St.le_slots (by simp only [Cd,Ck,Ac,Be,Aq,Nat.reduceEqDiff,reduceIte,Nat.reduceLT,Nat.reduceLeDiff];simp (disch:=omega) [Aq,A8,Cm,Aa] <;> (repeat' apply And.intro) <;> omega) (by simp (disch:=omega) [Dc,Ee,C9,Bj,Aq,A8,Cm,Aa]) (by simp [De]))⟩
     | some q =>
      have hgl:(Gd S)[S.length - 1]? = some [.str q.1]:=by
       rw [List.getLast?_eq_getElem?] at hg
       simp [Gd,hg]
      have hgl2:((S.length:Int) - 1).toNat=S.length - 1:=by omega
      have hSp:0<S.length:=by cases S with
       | nil=>simp at hg
       | cons a S=>simp
      have c8:((0:Int)<(S.length:Int))=True:=eq_true (by omega)
      by_cases hqp:q.1=p.1
      ·have hbq:(q.1 == p.1)=true:=by rw [hqp];simp
       have hOK:Y1 l=false:=by
        unfold Y1
        rw [decide_eq_false_iff_not]
        exact fun h=>hP.twice hp hDb hg hqp h.2
       (refine Ax hm _ _ _ ?_;simp only [Ah,Bm,Br,Eh,Ab,Ci,B0,Bd,A1,Bc,Bf,A9,B8,Dw,Ja,Bq,Au,Ar,Dm,Ds,D4,Ad,Ac,Dy,List.map_cons,List.map_nil,decide_eq_true_eq,Nat.reduceLT,Nat.reduceEqDiff,Int.reduceNeg,Cc,↓reduceIte,reduceCtorEq,Bool.or_false,M4,Gc,c2])
       (repeat' (first | (refine And.intro (by first | omega | (simp;done)|(simp;omega)) ?_)))
       refine Ba hm (by rfl) (by kernel_rfl) ?_
       simp only [Kf,Bc,Bf,Jn,Mq,I4,Ot,Bl,Eo,Cj,Ei,G8,C5,Dd,Ad,Ac,List.map_cons,List.map_nil,List.length_cons,List.length_nil,List.getElem?_cons_zero,Nat.reduceLT,Nat.reduceEqDiff,true_and,Cc,↓reduceIte,reduceCtorEq,Int.toNat_natCast,Int.natCast_nonneg,Nat.zero_add,Bool.true_and,L5,Kg,Ln,hgn]
       refine Det.useQ (Rg p.1 (hs p hpm)) ?_
       simp only [Ah,Bm,Br,Cn,Ab,B3,Ea,Bd,A1,Mv,Kf,M3,Jep,Bc,Bf,A0,Cw,Ca,E4,Aj,Jn,M7,Jby,Pd,Mq,I4,Jfx,Bl,Bq,C2,Dq,Db,D1,Dn,Au,Ep,Bt,Ar,M5,Je,Nh,J7,Ds,F3,Eo,Cj,Ei,Lj,Lg,G8,Q3,C5,Dd,Dv,N0,Ag,Ae,A3,Bs,Cs,Cr,A6,A7,B9,Av,Ap,Al,B7,B5,Af,Am,Ao,Cy,Ay,Aw,A2,Ad,Ac,Dy,List.map_cons,List.map_nil,List.getD_cons_zero,List.getD_cons_succ,List.length_cons,List.length_nil,List.getElem?_cons_zero,decide_eq_true_eq,Nat.reduceLT,Nat.reduceEqDiff,true_and,and_true,Cc,↓reduceIte,reduceCtorEq,Int.toNat_natCast,Int.natCast_nonneg,Nat.zero_add,Bool.not_true,Bool.false_eq_true,Bool.true_and,Bool.and_true,Bool.or_false,Bool.or_true,L5,Kg,M4,Ln,hgn,w1,hgl,hgl2,hvp,c8,hbq]
       (repeat' (first | (refine And.intro (by first | omega | (simp;done)|(simp;omega)) ?_)))
       unfold objR
       rw [hOK];simp
      ·have hbq:(q.1 == p.1)=false:=by simpa using hqp
       have hN:=hP.next hp hDb hmm (fun q' hq=>by rw [hg] at hq;cases hq;exact hqp)
       (refine Ax hm _ _ _ ?_;simp only [Ah,Bm,Br,Eh,Ab,Ci,B0,Bd,A1,Bc,Bf,A9,B8,Dw,Ja,Bq,Au,Ar,Dm,Ds,D4,Ad,Ac,Dy,List.map_cons,List.map_nil,decide_eq_true_eq,Nat.reduceLT,Nat.reduceEqDiff,Int.reduceNeg,Cc,↓reduceIte,reduceCtorEq,Bool.or_false,M4,Gc,c2])
       (repeat' (first | (refine And.intro (by first | omega | (simp;done)|(simp;omega)) ?_)))
       refine Ba hm (by rfl) (by kernel_rfl) ?_
       simp only [Kf,Bc,Bf,Jn,Mq,I4,Ot,Bl,Eo,Cj,Ei,G8,C5,Dd,Ad,Ac,List.map_cons,List.map_nil,List.length_cons,List.length_nil,List.getElem?_cons_zero,Nat.reduceLT,Nat.reduceEqDiff,true_and,Cc,↓reduceIte,reduceCtorEq,Int.toNat_natCast,Int.natCast_nonneg,Nat.zero_add,Bool.true_and,L5,Kg,Ln,hgn]
       refine Det.useQ (Rg p.1 (hs p hpm)) ?_
       simp only [Cb,Ah,Bm,Br,Ab,Bk,Bd,A1,Mv,Kf,M3,Jep,Bc,C1,Ct,Bf,A0,Cw,Ca,A9,Aj,Ed,Fk,Cv,Df,F8,Jn,M7,Jby,Pd,Mq,I4,Jfx,Bo,Bl,Bq,C2,Dq,Db,D1,Dn,Au,Ep,Bt,Ar,M5,Je,Nh,J7,Ds,F3,Eo,Cj,Ei,Lj,Lg,G8,Q3,C5,Dd,Dv,N0,Cu,G6,Tc,Lh,Mj,Vs,Vw,Vr,Sf,Fj,Ii,Oy,Ag,Ae,A3,Ht,Ji,Il,Dg,Jg,Gp,Gr,Gs,Gu,Hu,Ho,Hc,F5,G5,E1,Gg,Kz,F2,Jk,Aw,B4,C4,Cp,Fy,Ez,G7,Jr,H8,Ga,C7,El,Cz,F1,Ad,Ac,Bn,Bg,Bb,Dy,List.map_cons,List.map_nil,List.getD_cons_zero,List.getD_cons_succ,List.length_cons,List.length_nil,List.nil_append,List.append_nil,List.take_succ_cons,List.take_zero,List.take_nil,List.drop_succ_cons,List.drop_zero,List.drop_nil,List.getElem?_cons_zero,decide_eq_true_eq,ne_eq,not_false_eq_true,Nat.reduceLT,Nat.reduceLeDiff,Nat.reduceEqDiff,Nat.reduceMul,true_and,Cc,↓reduceIte,reduceCtorEq,Int.toNat_natCast,Int.natCast_nonneg,Nat.zero_add,Bool.not_true,Bool.false_eq_true,Bool.true_and,Bool.and_true,Bool.or_false,Bool.or_true,beq_self_eq_true,M1,L5,Kg,W6,Jfr,Q1,Ng,Ph,Ul,Lx,M4,Ln,Va,Gc,Fo,hgn,hgp,hgD,hbs,hpn,hpp,w1,hgl,hgl2,hvp,c8,hbq]
       (repeat' (first | (refine And.intro (by first | omega | (simp;done)|(simp;omega)) ?_)))
       refine ⟨(S ++ [p],D.set b true),⟨hN,fun x hx=>?_,by simp;omega⟩,by simp;omega,(St.le_slots (by simp only [Cd,Ck,Ac,Be,Aq,Nat.reduceEqDiff,reduceIte,Nat.reduceLT,Nat.reduceLeDiff];simp (disch:=omega) [Aq,A8,Cm,Aa] <;> (repeat' apply And.intro) <;> omega) (by simp (disch:=omega) [Dc,Ee,C9,Bj,Aq,A8,Cm,Aa]) (by simp [De]))⟩
       rcases List.mem_append.1 hx with hx | hx
       ·exact hV x hx
       ·rw [List.mem_singleton] at hx;subst hx;exact hvp
  ·have hin:=Decidable.not_not.1 hin
   have c2:((i:Int)<(l.length:Int))=True:=eq_true (by omega)
   obtain ⟨q,hq⟩:∃ q,l[i]? = some q:=⟨_,List.getElem?_eq_getElem hin⟩
   obtain ⟨f,hf⟩:∃ f,D[i]? = some f:=⟨_,List.getElem?_eq_getElem (by omega)⟩
   have hgn:(Gd l)[i]? = some [.str q.1]:=by simp [Gd,hq]
   have hgD:(Vy D)[i]? = some [.bool f]:=by simp [Vy,hf]
   have w1:IntKind.i64.wrap ((i:Int)+((1:Nat):Int))=((i+1:Nat):Int):=by rw [Aa (by omega) (by omega)];omega
   have w1':IntKind.i64.wrap ((i:Int)+1)=((i+1:Nat):Int):=by rw [Aa (by omega) (by omega)];omega
   have hgp:=w1
   have hbs:=w1
   have hpn:=w1
   have hpp:=w1
   have hgl2:=w1'
   have hvp:=w1
   cases f with
   | true =>
    have hgl:=w1
    have c8:=w1
    have hbq:=w1
    (refine Ax hm _ _ _ ?_;simp only [Cb,Ah,Bm,Br,Ce,Ab,Bd,A1,Bc,Bf,A9,B8,Dw,Ja,Bq,Au,Ar,Dm,Ds,D4,Ad,Ac,List.map_cons,List.map_nil,decide_eq_true_eq,Nat.reduceLT,Nat.reduceEqDiff,Int.reduceNeg,Cc,↓reduceIte,reduceCtorEq,Bool.or_false,M4,Gc,c2])
    (repeat' (first | (refine And.intro (by first | omega | (simp;done)|(simp;omega)) ?_)))
    refine Ba hm (by rfl) (by kernel_rfl) ?_
    simp only [Cb,Ah,Br,Ab,Bk,Bd,A1,Mv,Kf,M3,Bc,D9,Bf,A0,Cw,Ca,A9,Aj,B8,Jn,Jby,Pd,Mq,I4,Bl,Bq,C2,Dq,Db,J2,Dn,Au,Bt,Ar,E8,J7,Cj,Lj,Lg,G8,Q3,C5,Dv,N0,Aw,Ad,Ac,Dy,List.map_cons,List.map_nil,List.getD_cons_zero,List.getD_cons_succ,List.getElem?_cons_zero,Nat.reduceLT,Nat.reduceEqDiff,Int.reduceNeg,true_and,Cc,↓reduceIte,reduceCtorEq,Int.toNat_natCast,Int.natCast_nonneg,Nat.zero_add,Bool.not_true,Bool.false_eq_true,Bool.true_and,Bool.or_true,Pa,M1,Va,c2,hgD,hgl2]
    (repeat' (first | (refine And.intro (by first | omega | (simp;done)|(simp;omega)) ?_)))
    refine ⟨(i+1,z),⟨by simp only;omega,?_⟩,by simp only;omega,(St.le_slots (by simp only [Cd,Ck,Ac,Be,Aq,Nat.reduceEqDiff,reduceIte,Nat.reduceLT,Nat.reduceLeDiff];simp (disch:=omega) [Aq,A8,Cm,Aa] <;> (repeat' apply And.intro) <;> omega) (by simp (disch:=omega) [Dc,Ee,C9,Bj,Aq,A8,Cm,Aa]) (by simp [De]))⟩
    simp only
    rcases hz with ⟨h1,h2⟩ | ⟨b,h1,h2,h3,p,h4,h5⟩
    ·refine .inl ⟨h1,fun j hj=>?_⟩
     by_cases hji:j=i
     ·subst hji;exact hf
     ·exact h2 j (by omega)
    ·refine .inr ⟨b,h1,by omega,h3,p,h4,fun j r hj hr hd=>?_⟩
     by_cases hji:j=i
     ·subst hji;rw [hf] at hd;cases hd
     ·exact h5 j r (by omega) hr hd
   | false =>
    rcases hz with ⟨rfl,h2⟩ | ⟨b,rfl,h2,h3,p,h4,h5⟩
    ·have hgl:=w1
     have c8:((-1:Int)<0)=True:=by simp
     have hbq:=w1
     (refine Ax hm _ _ _ ?_;simp only [Cb,Ah,Bm,Br,Ce,Ab,Bd,A1,Bc,Bf,A9,B8,Dw,Ja,Bq,Au,Ar,Dm,Ds,D4,Ad,Ac,List.map_cons,List.map_nil,decide_eq_true_eq,Nat.reduceLT,Nat.reduceEqDiff,Int.reduceNeg,Cc,↓reduceIte,reduceCtorEq,Bool.or_false,M4,Gc,c2])
     (repeat' (first | (refine And.intro (by first | omega | (simp;done)|(simp;omega)) ?_)))
     refine Ba hm (by rfl) (by kernel_rfl) ?_
     simp only [Ah,Br,Ab,Bk,Bd,A1,Mv,Kf,M3,Jep,Bc,D9,Bf,A0,Cw,Ca,A9,Aj,B8,Jn,M7,Jby,Pd,Mq,I4,Bl,Bq,C2,Dq,Db,D1,Dn,Au,Bt,Ar,E8,Dm,J7,Cj,Lj,Lg,G8,Q3,C5,Dv,N0,Aw,Ad,Ac,Dy,List.map_cons,List.map_nil,List.getD_cons_zero,List.getD_cons_succ,List.getElem?_cons_zero,decide_eq_true_eq,Nat.reduceLT,Nat.reduceEqDiff,Int.reduceNeg,true_and,Cc,↓reduceIte,reduceCtorEq,Int.toNat_natCast,Int.natCast_nonneg,Nat.zero_add,Bool.not_false,Bool.true_and,Bool.or_true,Pa,M1,Va,c2,hgD,hgl2,c8]
     (repeat' (first | (refine And.intro (by first | omega | (simp;done)|(simp;omega)) ?_)))
     refine ⟨(i+1,i),⟨by simp only;omega,.inr ⟨i,rfl,by simp only;omega,hf,q,hq,fun j r hj hr hd=>?_⟩⟩,by simp only;omega,(St.le_slots (by simp only [Cd,Ck,Ac,Be,Aq,Nat.reduceEqDiff,reduceIte,Nat.reduceLT,Nat.reduceLeDiff];simp (disch:=omega) [Aq,A8,Cm,Aa] <;> (repeat' apply And.intro) <;> omega) (by simp (disch:=omega) [Dc,Ee,C9,Bj,Aq,A8,Cm,Aa]) (by simp [De]))⟩
     simp only at hj
     by_cases hji:j=i
     ·subst hji;rw [hq] at hr;cases hr;exact O6 _
     ·rw [h2 j (by omega)] at hd;cases hd
    ·have hgl:(Gd l)[b]? = some [.str p.1]:=by simp [Gd,h4]
     have c8:((b:Int)<0)=False:=eq_false (by omega)
     cases hlt2:Op.bytesLess q.1 p.1 with
     | true =>
      have hbq:=hlt2
      (refine Ax hm _ _ _ ?_;simp only [Cb,Ah,Bm,Br,Ce,Ab,Bd,A1,Bc,Bf,A9,B8,Dw,Ja,Bq,Au,Ar,Dm,Ds,D4,Ad,Ac,List.map_cons,List.map_nil,decide_eq_true_eq,Nat.reduceLT,Nat.reduceEqDiff,Int.reduceNeg,Cc,↓reduceIte,reduceCtorEq,Bool.or_false,M4,Gc,c2])
      (repeat' (first | (refine And.intro (by first | omega | (simp;done)|(simp;omega)) ?_)))
      refine Ba hm (by rfl) (by kernel_rfl) ?_
      simp only [Ah,Br,Ab,Bk,Bd,A1,Mv,Kf,M3,Jep,Bc,Bf,A0,Cw,Ca,A9,Aj,B8,Jn,M7,Jby,Pd,Mq,I4,Bl,Bq,C2,Dq,Db,D1,Dn,Au,Ep,Bt,Ar,E8,Dm,Ji9,J7,Eo,Cj,Ei,Lj,Lg,G8,Q3,C5,Dd,Dv,N0,Aw,Ad,Ac,Dy,List.map_cons,List.map_nil,List.getD_cons_zero,List.getD_cons_succ,List.length_cons,List.length_nil,List.getElem?_cons_zero,decide_eq_true_eq,Nat.reduceLT,Nat.reduceEqDiff,Int.reduceNeg,true_and,Cc,↓reduceIte,reduceCtorEq,Int.toNat_natCast,Int.natCast_nonneg,Nat.zero_add,Bool.not_false,Bool.false_eq_true,Bool.true_and,Bool.or_false,Bool.or_true,Pa,M1,L5,Kg,Ln,Va,c2,hgn,hgD,hgl,hgl2,c8,hbq]
      (repeat' (first | (refine And.intro (by first | omega | (simp;done)|(simp;omega)) ?_)))
      refine ⟨(i+1,i),⟨by simp only;omega,.inr ⟨i,rfl,by simp only;omega,hf,q,hq,fun j r hj hr hd=>?_⟩⟩,by simp only;omega,(St.le_slots (by simp only [Cd,Ck,Ac,Be,Aq,Nat.reduceEqDiff,reduceIte,Nat.reduceLT,Nat.reduceLeDiff];simp (disch:=omega) [Aq,A8,Cm,Aa] <;> (repeat' apply And.intro) <;> omega) (by simp (disch:=omega) [Dc,Ee,C9,Bj,Aq,A8,Cm,Aa]) (by simp [De]))⟩
      simp only at hj
      by_cases hji:j=i
      ·subst hji;rw [hq] at hr;cases hr;exact O6 _
      ·exact Jqy (Yn hlt2) (h5 j r (by omega) hr hd)
     | false =>
      have hbq:=hlt2
      (refine Ax hm _ _ _ ?_;simp only [Cb,Ah,Bm,Br,Ce,Ab,Bd,A1,Bc,Bf,A9,B8,Dw,Ja,Bq,Au,Ar,Dm,Ds,D4,Ad,Ac,List.map_cons,List.map_nil,decide_eq_true_eq,Nat.reduceLT,Nat.reduceEqDiff,Int.reduceNeg,Cc,↓reduceIte,reduceCtorEq,Bool.or_false,M4,Gc,c2])
      (repeat' (first | (refine And.intro (by first | omega | (simp;done)|(simp;omega)) ?_)))
      refine Ba hm (by rfl) (by kernel_rfl) ?_
      simp only [Cb,Ah,Br,Ab,Bk,Bd,A1,Mv,Kf,M3,Jep,Bc,Bf,A0,Cw,Ca,A9,Aj,B8,Jn,M7,Jby,Pd,Mq,I4,Bl,Bq,C2,Dq,Db,D1,Dn,Au,Ep,Bt,Ar,E8,Dm,Ji9,J7,Eo,Cj,Ei,Lj,Lg,G8,Q3,C5,Dd,Dv,N0,Aw,Ad,Ac,Dy,List.map_cons,List.map_nil,List.getD_cons_zero,List.getD_cons_succ,List.length_cons,List.length_nil,List.getElem?_cons_zero,decide_eq_true_eq,Nat.reduceLT,Nat.reduceEqDiff,Int.reduceNeg,true_and,Cc,↓reduceIte,reduceCtorEq,Int.toNat_natCast,Int.natCast_nonneg,Nat.zero_add,Bool.not_false,Bool.false_eq_true,Bool.true_and,Bool.or_false,Bool.or_true,Pa,M1,L5,Kg,Ln,Va,c2,hgn,hgD,hgl,hgl2,c8,hbq]
      (repeat' (first | (refine And.intro (by first | omega | (simp;done)|(simp;omega)) ?_)))
      refine ⟨(i+1,b),⟨by simp only;omega,.inr ⟨b,rfl,by simp only;omega,h3,p,h4,fun j r hj hr hd=>?_⟩⟩,by simp only;omega,(St.le_slots (by simp only [Cd,Ck,Ac,Be,Aq,Nat.reduceEqDiff,reduceIte,Nat.reduceLT,Nat.reduceLeDiff];simp (disch:=omega) [Aq,A8,Cm,Aa] <;> (repeat' apply And.intro) <;> omega) (by simp (disch:=omega) [Dc,Ee,C9,Bj,Aq,A8,Cm,Aa]) (by simp [De]))⟩
      simp only at hj
      by_cases hji:j=i
      ·subst hji;rw [hq] at hr;cases hr;exact hlt2
      ·exact h5 j r (by omega) hr hd
end Go.LX
