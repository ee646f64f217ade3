/- Values, the document's answer: objects. -/
import Derived.Test.YtmejkfclabmijaaGreatDoorPathBackLxZ
import Derived.Test.YtmejkfclabmijaaGreatDoorPathBackLxM
import Derived.Test.YtmejkfclabmijaaGreatDoorPathBackLxP
set_option linter.unusedSimpArgs false
set_option linter.unusedVariables false
set_option linter.unusedSectionVars false
set_option linter.unnecessarySimpa false
set_option maxRecDepth 100000
set_option maxHeartbeats 2000000
namespace Go.LX
open Go Go.RowKit Go.Proofs
attribute [local irreducible] Bz SWP Gm
open Classical in
noncomputable def Xk (l:List KT):Bool:=decide ((∀ p∈l,valid p.1=true)∧(l.map (·.1)).Nodup)
noncomputable def objR (l:List KT):L:=if Xk l=true then .tup [.sl (valL ((Tree.mk 6 [] false 0 (Dz (Wq l))).enc [])),.int .i64 0] else .tup [.snil,.int .i64 4]
def Uy (D:List Bool):List (List PV):=D.map fun b=>[.bool b]
theorem Sb {a b:List KT} (h:a.Perm b):(Dz a).enc.length=(Dz b).enc.length:=by
 induction h with
 | nil=>rfl
 | cons x _ ih=>simp only [Dz,Er,List.length_append,ih]
 | swap x y l=>simp only [Dz,Er,List.length_append];omega
 | trans _ _ h1 h2=>exact h1.trans h2
theorem Jkl (l:List KT) (hv:(Dz l).enc.length≤900000) (hs:∀ p∈l,p.1.length≤1000000):Det cx 105 [.p (.sl (Fq l)),.p (.sl (El l))] [] (objR l) []:=by
 have hll:=Forest.len_le (Dz l)
 rw [Jv] at hll
 have rep:List.replicate l.length [PV.bool false]=Uy (List.replicate l.length false):=by simp [Uy]
 have cz:((0:Int)≤(l.length:Int))=True:=eq_true (by omega)
 skip
 (refine Bz.of_code (X:=cx) false [] (by simp) Tryz.func105 (by kernel_rfl) rfl (by simp only [List.length_cons,List.length_nil,Tryz.ntmps105];decide) (by simp) ?_;refine Ax hm _ _ _ ?_;simp only [Tryz.ntmps105,Tryz.results105,Ch,Ah,Bn,Bs,Ci,H9,Ab,Bd,A0,Bb,Cs,Be,Az,Cb,E1,Ba,Ai,B8,Eg,Di,Jac,Bp,Br,Av,Aq,Ll,D9,D0,Cr,Ag,u_kmk,u_fits,Z5,u_mkT,Ib,Jm,Ii,Dh,Jl,Gz,H7,B1,Cw,Fv,E6,F5,Ad,Ac,Bl,Bf,A6,argW,List.map_cons,List.map_nil,List.length_cons,List.length_nil,bne_iff_ne,ne_eq,not_true_eq_false,Nat.reduceLT,Nat.reduceLeDiff,Nat.reduceEqDiff,Nat.reduceMul,Int.reduceNeg,true_and,Ca,↓reduceIte,reduceCtorEq,Int.toNat_natCast,Nat.zero_add,Bool.true_and,Bool.or_false,f_z4,f_b4,Wn,O1,O4,Ld,Mi,K2,Ul,Fp,E5,rep,cz])
 (repeat' (first | (refine iteI (fun h=>?_) (fun h=>?_))|(refine B2 (by first | omega | (simp (disch:=omega) only [Aa,Ak,Aj] at *;omega)) ?_;intro b hb)|(refine And.intro (by first | omega | (simp (disch:=omega) only [Aa,Ak,Aj] at *;omega)) ?_)|((first | (refine A9 hm (by rfl) (by kernel_rfl) ?_));simp only [Dm])|(exact True.intro)|(exfalso;omega)))
 refine SWP.of_le (Ix [(16,86),(17,93)] _ (by simp)) ?_
 simp only [Bk,E8,C1,B3,Dl,Ek,Af,Ct,F3,Fa,Dx,C9,C8,Cg,Bf,A6,Nat.reduceEqDiff,Int.reduceNeg,↓reduceIte]
 refine SWP.loop (fun x:List KT×List Bool=>⟨Fo 97 [(0,.p (.sl (Fq l))),(1,.p (.sl (El l))),(6,.own 86 0 x.1.length),(7,.own 93 0 x.1.length),(8,.own 20 0 l.length)],[(20,.row 4 1 (Uy x.2)),(93,.row 34 1 (El x.1)),(86,.row 9 1 (Fq x.1))]⟩) (fun x=>Picks l x.1 x.2∧(∀ p∈x.1,valid p.1=true)∧x.1.length≤l.length) (fun x=>l.length - x.1.length) ([],List.replicate l.length false) (St.le_slots (by simp only [Ck,Cm,Ac,Bj,Au,Nat.reduceEqDiff,reduceIte,Nat.reduceLT,Nat.reduceLeDiff];simp (disch:=omega) [Au,Bc,Cq,Aa] <;> (repeat' apply And.intro) <;> omega) (by simp (disch:=omega) [Dj,Eo,Dg,Bh,Au,Bc,Cq,Aa]) (by simp [Dk])) ⟨Picks.start l,by simp,Nat.zero_le _⟩ ?_
 rintro ⟨S,D⟩ ⟨hP,hV,hS⟩
 simp only at hP hV hS
 have hDl:=hP.len
 by_cases hlt:¬ S.length<l.length
 ·have c1:((S.length:Int)<(l.length:Int))=False:=eq_false (by omega)
  have hSl:S.length=l.length:=by omega
  have hPm:=hP.done hSl
  have hOK:Xk l=true:=by
   unfold Xk
   rw [decide_eq_true_eq]
   exact ⟨fun p hp=>hV p (hPm.mem_iff.2 hp),(hPm.map (·.1)).nodup_iff.1 hP.rise.nodup⟩
  have hso:Wq l=S:=Uk (Vc ((hPm.map (·.1)).nodup_iff.1 hP.rise.nodup)) hP.rise ((Oe l).trans hPm.symm)
  have tn:(Fq S).take S.length=Fq S:=List.take_of_length_le (by rw [Fp];omega)
  have tp:(El S).take S.length=El S:=List.take_of_length_le (by rw [E5];omega)
  have ln:(S.length≤S.length)=True:=eq_true (Nat.le_refl _)
  have lp:=ln
  skip
  (refine Ax hm _ _ _ ?_;simp only [Ah,Bn,Bs,Fd,Ab,Co,B4,Bd,A0,Bb,Be,Ce,Ba,B8,Eg,Cc,Br,Av,Aq,D1,D9,D0,Gg,Ag,Ae,F8,Gq,Fk,Gs,Cd,Bv,Bm,Bx,Bw,A5,B3,Bi,Ay,A4,Ar,D8,Dv,Nj,Jg,Hy,Cj,Ad,Ac,Dc,Bf,A6,Ea,List.map_cons,List.map_nil,List.append_nil,List.flatMap_cons,List.flatMap_nil,List.drop_zero,decide_eq_true_eq,Nat.reduceLT,Nat.reduceEqDiff,Int.reduceNeg,Ca,Bu,↓reduceIte,reduceCtorEq,Nat.zero_add,Bool.or_false,Mi,Fp,E5,c1,tn,tp,ln])
  (repeat' (first | (refine iteI (fun h=>?_) (fun h=>?_))|(refine B2 (by first | omega | (simp (disch:=omega) only [Aa,Ak,Aj] at *;omega)) ?_;intro b hb)|(refine And.intro (by first | omega | (simp (disch:=omega) only [Aa,Ak,Aj] at *;omega)) ?_)|((first | (refine A9 hm (by rfl) (by kernel_rfl) ?_)|(refine Det.use (S8 S (by rw [Sb hPm];omega)) ?_)|(refine Det.useQ (S8 S (by rw [Sb hPm];omega)) ?_));simp only [Cn,Ab,Bd,A0,Bb,Cs,Be,Az,Cb,Ai,Ag,Ae,A3,Bq,B3,Bt,Cy,Cz,A7,A8,B9,Aw,Ao,Al,B5,B6,Af,Am,Ap,De,A1,Ar,A2,Ad,Ac,Nat.reduceLT,Nat.reduceEqDiff,and_true,↓reduceIte,Bool.and_true])|(exact True.intro)|(exfalso;omega)))
  unfold objR
  rw [if_pos hOK,hso]
 ·have hlt:=Decidable.not_not.1 hlt
  have c1:((S.length:Int)<(l.length:Int))=True:=eq_true (by omega)
  have tn:=c1
  have tp:=c1
  have ln:=c1
  have lp:=c1
  (refine Ax hm _ _ _ ?_;simp only [Ch,Ah,Bn,Bs,Ci,H9,Ab,Bd,A0,Bb,Be,Az,Cb,Ba,Ai,B8,Eg,Br,Av,Aq,D1,D9,D0,Gg,Ad,Ac,List.map_cons,List.map_nil,decide_eq_true_eq,Nat.reduceLT,Nat.reduceEqDiff,Int.reduceNeg,Ca,↓reduceIte,reduceCtorEq,Bool.or_false,Mi,Fp,c1])
  refine SWP.loop (fun x:Nat×Int=>⟨Fo 97 [(0,.p (.sl (Fq l))),(1,.p (.sl (El l))),(6,.own 86 0 S.length),(7,.own 93 0 S.length),(8,.own 20 0 l.length),(9,.p (.int .i64 x.2)),(10,.p (.int .i64 x.1))],[(20,.row 4 1 (Uy D)),(93,.row 34 1 (El S)),(86,.row 9 1 (Fq S))]⟩) (fun x=>x.1≤l.length∧((x.2 = -1∧∀ j,j<x.1→D[j]? = some true)∨∃ b:Nat,x.2=b∧b<x.1∧D[b]? = some false∧∃ p,l[b]? = some p∧∀ (j:Nat) (q:KT),j<x.1→l[j]? = some q→D[j]? = some false→nle p.1 q.1)) (fun x=>l.length - x.1) (0,-1) (St.le_slots (by simp only [Ck,Cm,Ac,Bj,Au,Nat.reduceEqDiff,reduceIte,Nat.reduceLT,Nat.reduceLeDiff];simp (disch:=omega) [Au,Bc,Cq,Aa] <;> (repeat' apply And.intro) <;> omega) (by simp (disch:=omega) [Dj,Eo,Dg,Bh,Au,Bc,Cq,Aa]) (by simp [Dk])) ⟨Nat.zero_le _,.inl ⟨rfl,fun j h=>by omega⟩⟩ ?_
  rintro ⟨i,z⟩ ⟨hi,hz⟩
  simp only at hi hz
  by_cases hin:¬ i<l.length
  ·have c2:((i:Int)<(l.length:Int))=False:=eq_false (by omega)
   obtain rfl:i=l.length:=by omega
   rcases hz with ⟨_,hz⟩ | ⟨b,rfl,hb,hDb,p,hp,hm'⟩
   ·have:=Jjh (D:=D) (fun j hj=>hz j (by omega))
    have:=hP.cnt
    omega
   ·have hgn:(Fq l)[b]? = some [.str p.1]:=by simp [Fq,hp]
    have hgp:(El l)[b]? = some [.sl (valL (p.2.enc []))]:=by simp [El,hp]
    have hgD:(Uy D)[b]? = some [.bool false]:=by simp [Uy,hDb]
    have hmm:∀ (j:Nat) (q:KT),l[j]? = some q→D[j]? = some false→nle p.1 q.1:=fun j q h1 h2=>hm' j q (List.getElem?_eq_some_iff.1 h1).1 h1 h2
    have hpm:=List.mem_of_getElem? hp
    have hbs:(Uy D).set b [.bool true]=Uy (D.set b true):=by simp [Uy,List.map_set]
    have hpn:∀ (S:List KT),Fq S ++ [[.str p.1]]=Fq (S ++ [p]):=fun S=>by simp [Fq]
    have hpp:∀ (S:List KT),El S ++ [[.sl (valL (p.2.enc []))]]=El (S ++ [p]):=fun S=>by simp [El]
    have w1:IntKind.i64.wrap ((S.length:Int) - 1)=(S.length:Int) - 1:=Aa (by omega) (by omega)
    cases hvp:valid p.1 with
    | false =>
     have hOK:Xk l=false:=by
      unfold Xk
      rw [decide_eq_false_iff_not]
      rintro ⟨h,_⟩
      rw [h p hpm] at hvp;cases hvp
     have hgl:=c2
     have hgl2:=c2
     have c8:=c2
     have hbq:=c2
     skip
     (refine Ax hm _ _ _ ?_;simp only [Ah,Bn,Bs,Fd,Ab,Co,B4,Bd,A0,Bb,Be,Ba,B8,Eg,Iv,Br,Av,Aq,D1,D9,D0,Ad,Ac,Ea,List.map_cons,List.map_nil,decide_eq_true_eq,Nat.reduceLT,Nat.reduceEqDiff,Int.reduceNeg,Ca,↓reduceIte,reduceCtorEq,Bool.or_false,Mi,Fp,c2])
     (repeat' (first | (refine And.intro (by first | omega | (simp;done)|(simp;omega)) ?_)))
     refine A9 hm (by rfl) (by kernel_rfl) ?_
     simp only [J6,Bb,Be,Je,L2,Ig,O6,Bg,Eh,B7,D7,He,C5,C4,Ad,Ac,List.map_cons,List.map_nil,List.length_cons,List.length_nil,List.getElem?_cons_zero,Nat.reduceLT,Nat.reduceEqDiff,true_and,Ca,↓reduceIte,reduceCtorEq,Int.toNat_natCast,Int.natCast_nonneg,Nat.zero_add,Bool.true_and,L9,Kw,K2,hgn]
     refine Det.useQ (Qo p.1 (hs p hpm)) ?_
     simp only [Ah,Bn,Bs,Cn,Ab,Cf,Ei,Bd,A0,Nc,J6,N6,Bb,Ep,Be,Az,C0,Cb,E1,Ai,Je,Jev,Py,Br,C6,D6,D3,Kg,D4,Jp,Ag,Ae,A3,Bt,Cy,Cz,A7,A8,B9,Aw,Ao,Al,B5,B6,Af,Am,Ap,De,A1,Ar,A2,Ad,Ac,Ea,List.map_cons,List.map_nil,List.getD_cons_zero,List.getD_cons_succ,Nat.reduceLT,Nat.reduceEqDiff,and_true,↓reduceIte,Bool.not_false,Bool.and_true,hvp]
     (repeat' (first | (refine And.intro (by first | omega | (simp;done)|(simp;omega)) ?_)))
     unfold objR
     rw [hOK];simp
    | true =>
     cases hg:S.getLast? with
     | none =>
      have hS0:S=[]:=List.getLast?_eq_none_iff.1 hg
      subst hS0
      have hgl:=c2
      have hgl2:=c2
      have c8:((0:Int)<((0:Nat):Int))=False:=by simp
      have hbq:=c2
      have hN:=hP.next hp hDb hmm (fun q hq=>by simp at hq)
      (refine Ax hm _ _ _ ?_;simp only [Ah,Bn,Bs,Fd,Ab,Co,B4,Bd,A0,Bb,Be,Ba,B8,Eg,Iv,Br,Av,Aq,D1,D9,D0,Ad,Ac,Ea,List.map_cons,List.map_nil,List.length_nil,decide_eq_true_eq,Nat.reduceLT,Nat.reduceEqDiff,Int.reduceNeg,Ca,↓reduceIte,reduceCtorEq,Bool.or_false,Mi,Fp,c2])
      (repeat' (first | (refine And.intro (by first | omega | (simp;done)|(simp;omega)) ?_)))
      refine A9 hm (by rfl) (by kernel_rfl) ?_
      simp only [J6,Bb,Be,Je,L2,Ig,O6,Bg,Eh,B7,D7,He,C5,C4,Ad,Ac,List.map_cons,List.map_nil,List.length_cons,List.length_nil,List.getElem?_cons_zero,Nat.reduceLT,Nat.reduceEqDiff,true_and,Ca,↓reduceIte,reduceCtorEq,Int.toNat_natCast,Int.natCast_nonneg,Nat.zero_add,Bool.true_and,L9,Kw,K2,hgn]
      refine Det.useQ (Qo p.1 (hs p hpm)) ?_
      simp only [Ch,Ah,Bn,Bs,Ab,Bo,Bd,A0,Nc,J6,N6,Jhx,Bb,Ep,Dd,Cs,Be,Az,C0,Cb,Ba,Ai,D5,Gn,Cp,Di,Fy,Je,Nq,Jev,Py,Jfo,Bp,Bg,Br,C6,D6,Du,D3,D4,Av,B0,Aq,Js,Jp,D9,Gg,Eh,B7,D7,Kr,Ku,He,C5,C4,Cr,G1,Sr,Kx,Lz,Vb,T9,U4,Rs,Gl,Jc,Ob,Ag,Ae,A3,Ib,Jm,Ii,Dh,Jl,Gz,G8,Ha,G6,H7,H1,G0,F1,G3,E7,Gb,Km,F6,Jb,Ar,B1,Cw,Cu,Fv,E6,G2,Ky,I5,H3,F5,Ds,Fl,Db,Hf,Ad,Ac,Bl,Bf,A6,Ea,List.map_cons,List.map_nil,List.getD_cons_zero,List.getD_cons_succ,List.length_cons,List.length_nil,List.nil_append,List.append_nil,List.take_succ_cons,List.take_zero,List.take_nil,List.drop_succ_cons,List.drop_zero,List.drop_nil,List.getElem?_cons_zero,decide_eq_true_eq,ne_eq,not_false_eq_true,Nat.reduceLT,Nat.reduceLeDiff,Nat.reduceEqDiff,Nat.reduceMul,true_and,Ca,↓reduceIte,reduceCtorEq,Int.toNat_natCast,Int.natCast_nonneg,Nat.zero_add,Bool.not_true,Bool.false_eq_true,Bool.true_and,Bool.and_true,Bool.or_true,beq_self_eq_true,Nr,L9,Kw,Wn,Jey,Qa,Mx,O1,Ty,Ld,Mi,K2,Ul,Fp,E5,hgn,hgp,hgD,hbs,hpn,hpp,hvp,c8]
      (repeat' (first | (refine And.intro (by first | omega | (simp;done)|(simp;omega)) ?_)))
      exact ⟨([p],D.set b true),⟨hN,by simp [hvp],by simp;omega⟩,by simp;omega,(St.le_slots (by simp only [Ck,Cm,Ac,Bj,Au,Nat.reduceEqDiff,reduceIte,Nat.reduceLT,Nat.reduceLeDiff];simp (disch:=omega) [Au,Bc,Cq,Aa] <;> (repeat' apply And.intro) <;> omega) (by simp (disch:=omega) [Dj,Eo,Dg,Bh,Au,Bc,Cq,Aa]) (by simp [Dk]))⟩
     | some q =>
      have hgl:(Fq S)[S.length - 1]? = some [.str q.1]:=by
       rw [List.getLast?_eq_getElem?] at hg
       simp [Fq,hg]
      have hgl2:((S.length:Int) - 1).toNat=S.length - 1:=by omega
      have hSp:0<S.length:=by cases S with
       | nil=>simp at hg
       | cons a S=>simp
      have c8:((0:Int)<(S.length:Int))=True:=eq_true (by omega)
      by_cases hqp:q.1=p.1
      ·have hbq:(q.1 == p.1)=true:=by rw [hqp];simp
       have hOK:Xk l=false:=by
        unfold Xk
        rw [decide_eq_false_iff_not]
        exact fun h=>hP.twice hp hDb hg hqp h.2
       (refine Ax hm _ _ _ ?_;simp only [Ah,Bn,Bs,Fd,Ab,Co,B4,Bd,A0,Bb,Be,Ba,B8,Eg,Iv,Br,Av,Aq,D1,D9,D0,Ad,Ac,Ea,List.map_cons,List.map_nil,decide_eq_true_eq,Nat.reduceLT,Nat.reduceEqDiff,Int.reduceNeg,Ca,↓reduceIte,reduceCtorEq,Bool.or_false,Mi,Fp,c2])
       (repeat' (first | (refine And.intro (by first | omega | (simp;done)|(simp;omega)) ?_)))
       refine A9 hm (by rfl) (by kernel_rfl) ?_
       simp only [J6,Bb,Be,Je,L2,Ig,O6,Bg,Eh,B7,D7,He,C5,C4,Ad,Ac,List.map_cons,List.map_nil,List.length_cons,List.length_nil,List.getElem?_cons_zero,Nat.reduceLT,Nat.reduceEqDiff,true_and,Ca,↓reduceIte,reduceCtorEq,Int.toNat_natCast,Int.natCast_nonneg,Nat.zero_add,Bool.true_and,L9,Kw,K2,hgn]
       refine Det.useQ (Qo p.1 (hs p hpm)) ?_
       simp only [Ah,Bn,Bs,Cn,Ab,Cf,Ei,Bd,A0,Nc,J6,N6,Jhx,Bb,Be,Az,C0,Cb,E1,Ai,Je,Nq,Jev,Py,L2,Ig,Jfo,Bg,Br,C6,D6,Du,D3,D4,Av,F4,B0,Aq,Nn,Js,Pz,Jp,D9,Gg,Eh,B7,D7,Kr,Ku,He,Qn,C5,C4,Da,Nb,Ag,Ae,A3,Bt,Cy,Cz,A7,A8,B9,Aw,Ao,Al,B5,B6,Af,Am,Ap,De,A1,Ar,A2,Ad,Ac,Ea,List.map_cons,List.map_nil,List.getD_cons_zero,List.getD_cons_succ,List.length_cons,List.length_nil,List.getElem?_cons_zero,decide_eq_true_eq,Nat.reduceLT,Nat.reduceEqDiff,true_and,and_true,Ca,↓reduceIte,reduceCtorEq,Int.toNat_natCast,Int.natCast_nonneg,Nat.zero_add,Bool.not_true,Bool.false_eq_true,Bool.true_and,Bool.and_true,Bool.or_false,Bool.or_true,L9,Kw,Mi,K2,hgn,w1,hgl,hgl2,hvp,c8,hbq]
       (repeat' (first | (refine And.intro (by first | omega | (simp;done)|(simp;omega)) ?_)))
       unfold objR
       rw [hOK];simp
      ·have hbq:(q.1 == p.1)=false:=by simpa using hqp
       have hN:=hP.next hp hDb hmm (fun q' hq=>by rw [hg] at hq;cases hq;exact hqp)
       (refine Ax hm _ _ _ ?_;simp only [Ah,Bn,Bs,Fd,Ab,Co,B4,Bd,A0,Bb,Be,Ba,B8,Eg,Iv,Br,Av,Aq,D1,D9,D0,Ad,Ac,Ea,List.map_cons,List.map_nil,decide_eq_true_eq,Nat.reduceLT,Nat.reduceEqDiff,Int.reduceNeg,Ca,↓reduceIte,reduceCtorEq,Bool.or_false,Mi,Fp,c2])
       (repeat' (first | (refine And.intro (by first | omega | (simp;done)|(simp;omega)) ?_)))
       refine A9 hm (by rfl) (by kernel_rfl) ?_
       simp only [J6,Bb,Be,Je,L2,Ig,O6,Bg,Eh,B7,D7,He,C5,C4,Ad,Ac,List.map_cons,List.map_nil,List.length_cons,List.length_nil,List.getElem?_cons_zero,Nat.reduceLT,Nat.reduceEqDiff,true_and,Ca,↓reduceIte,reduceCtorEq,Int.toNat_natCast,Int.natCast_nonneg,Nat.zero_add,Bool.true_and,L9,Kw,K2,hgn]
       refine Det.useQ (Qo p.1 (hs p hpm)) ?_
       simp only [Ch,Ah,Bn,Bs,Ab,Bo,Bd,A0,Nc,J6,N6,Jhx,Bb,Dd,Cs,Be,Az,C0,Cb,Ba,Ai,D5,Gn,Cp,Di,Fy,Je,Nq,Jev,Py,L2,Ig,Jfo,Bp,Bg,Br,C6,D6,Du,D3,D4,Av,F4,B0,Aq,Nn,Js,Pz,Jp,D9,Gg,Eh,B7,D7,Kr,Ku,He,Qn,C5,C4,Da,Nb,Cr,G1,Sr,Kx,Lz,Vb,T9,U4,Rs,Gl,Jc,Ob,Ag,Ae,A3,Ib,Jm,Ii,Dh,Jl,Gz,G8,Ha,G6,H7,H1,G0,F1,G3,E7,Gb,Km,F6,Jb,Ar,B1,Cw,Cu,Fv,E6,G2,I5,H3,F5,Ds,Fl,Db,Hf,Ad,Ac,Bl,Bf,A6,Ea,List.map_cons,List.map_nil,List.getD_cons_zero,List.getD_cons_succ,List.length_cons,List.length_nil,List.nil_append,List.append_nil,List.take_succ_cons,List.take_zero,List.take_nil,List.drop_succ_cons,List.drop_zero,List.drop_nil,List.getElem?_cons_zero,decide_eq_true_eq,ne_eq,not_false_eq_true,Nat.reduceLT,Nat.reduceLeDiff,Nat.reduceEqDiff,Nat.reduceMul,true_and,Ca,↓reduceIte,reduceCtorEq,Int.toNat_natCast,Int.natCast_nonneg,Nat.zero_add,Bool.not_true,Bool.false_eq_true,Bool.true_and,Bool.and_true,Bool.or_false,Bool.or_true,beq_self_eq_true,Nr,L9,Kw,Wn,Jey,Qa,Mx,O1,Ty,Ld,Mi,K2,Ul,Fp,E5,hgn,hgp,hgD,hbs,hpn,hpp,w1,hgl,hgl2,hvp,c8,hbq]
       (repeat' (first | (refine And.intro (by first | omega | (simp;done)|(simp;omega)) ?_)))
       refine ⟨(S ++ [p],D.set b true),⟨hN,fun x hx=>?_,by simp;omega⟩,by simp;omega,(St.le_slots (by simp only [Ck,Cm,Ac,Bj,Au,Nat.reduceEqDiff,reduceIte,Nat.reduceLT,Nat.reduceLeDiff];simp (disch:=omega) [Au,Bc,Cq,Aa] <;> (repeat' apply And.intro) <;> omega) (by simp (disch:=omega) [Dj,Eo,Dg,Bh,Au,Bc,Cq,Aa]) (by simp [Dk]))⟩
       rcases List.mem_append.1 hx with hx | hx
       ·exact hV x hx
       ·rw [List.mem_singleton] at hx;subst hx;exact hvp
  ·have hin:=Decidable.not_not.1 hin
   have c2:((i:Int)<(l.length:Int))=True:=eq_true (by omega)
   obtain ⟨q,hq⟩:∃ q,l[i]? = some q:=⟨_,List.getElem?_eq_getElem hin⟩
   obtain ⟨f,hf⟩:∃ f,D[i]? = some f:=⟨_,List.getElem?_eq_getElem (by omega)⟩
   have hgn:(Fq l)[i]? = some [.str q.1]:=by simp [Fq,hq]
   have hgD:(Uy D)[i]? = some [.bool f]:=by simp [Uy,hf]
   have w1:IntKind.i64.wrap ((i:Int)+((1:Nat):Int))=((i+1:Nat):Int):=by rw [Aa (by omega) (by omega)];omega
   have w1':IntKind.i64.wrap ((i:Int)+1)=((i+1:Nat):Int):=by rw [Aa (by omega) (by omega)];omega
   have hgp:=w1
   have hbs:=w1
   have hpn:=w1
   have hpp:=w1
   have hgl2:=w1'
   have hvp:=w1
   cases f with
   | true =>
    have hgl:=w1
    have c8:=w1
    have hbq:=w1
    (refine Ax hm _ _ _ ?_;simp only [Ch,Ah,Bn,Bs,Ci,Ab,Bd,A0,Bb,Be,Ba,B8,Eg,Iv,Br,Av,Aq,D1,D9,D0,Ad,Ac,List.map_cons,List.map_nil,decide_eq_true_eq,Nat.reduceLT,Nat.reduceEqDiff,Int.reduceNeg,Ca,↓reduceIte,reduceCtorEq,Bool.or_false,Mi,Fp,c2])
    (repeat' (first | (refine And.intro (by first | omega | (simp;done)|(simp;omega)) ?_)))
    refine A9 hm (by rfl) (by kernel_rfl) ?_
    simp only [Ch,Ah,Bs,Ab,Bo,Bd,A0,Nc,J6,N6,Bb,Ep,Be,Az,C0,Cb,Ba,Ai,B8,Je,Jev,Py,L2,Ig,Bg,Br,C6,D6,Du,Kg,D4,Av,B0,Aq,Hb,Jp,B7,Kr,Ku,He,Qn,C5,Da,Nb,Ar,Ad,Ac,Ea,List.map_cons,List.map_nil,List.getD_cons_zero,List.getD_cons_succ,List.getElem?_cons_zero,Nat.reduceLT,Nat.reduceEqDiff,Int.reduceNeg,true_and,Ca,↓reduceIte,reduceCtorEq,Int.toNat_natCast,Int.natCast_nonneg,Nat.zero_add,Bool.not_true,Bool.false_eq_true,Bool.true_and,Bool.or_true,O9,Nr,Ul,c2,hgD,hgl2]
    (repeat' (first | (refine And.intro (by first | omega | (simp;done)|(simp;omega)) ?_)))
    refine ⟨(i+1,z),⟨by simp only;omega,?_⟩,by simp only;omega,(St.le_slots (by simp only [Ck,Cm,Ac,Bj,Au,Nat.reduceEqDiff,reduceIte,Nat.reduceLT,Nat.reduceLeDiff];simp (disch:=omega) [Au,Bc,Cq,Aa] <;> (repeat' apply And.intro) <;> omega) (by simp (disch:=omega) [Dj,Eo,Dg,Bh,Au,Bc,Cq,Aa]) (by simp [Dk]))⟩
    simp only
    rcases hz with ⟨h1,h2⟩ | ⟨b,h1,h2,h3,p,h4,h5⟩
    ·refine .inl ⟨h1,fun j hj=>?_⟩
     by_cases hji:j=i
     ·subst hji;exact hf
     ·exact h2 j (by omega)
    ·refine .inr ⟨b,h1,by omega,h3,p,h4,fun j r hj hr hd=>?_⟩
     by_cases hji:j=i
     ·subst hji;rw [hf] at hd;cases hd
     ·exact h5 j r (by omega) hr hd
   | false =>
    rcases hz with ⟨rfl,h2⟩ | ⟨b,rfl,h2,h3,p,h4,h5⟩
    ·have hgl:=w1
     have c8:((-1:Int)<0)=True:=by simp
     have hbq:=w1
     (refine Ax hm _ _ _ ?_;simp only [Ch,Ah,Bn,Bs,Ci,Ab,Bd,A0,Bb,Be,Ba,B8,Eg,Iv,Br,Av,Aq,D1,D9,D0,Ad,Ac,List.map_cons,List.map_nil,decide_eq_true_eq,Nat.reduceLT,Nat.reduceEqDiff,Int.reduceNeg,Ca,↓reduceIte,reduceCtorEq,Bool.or_false,Mi,Fp,c2])
     (repeat' (first | (refine And.intro (by first | omega | (simp;done)|(simp;omega)) ?_)))
     refine A9 hm (by rfl) (by kernel_rfl) ?_
     simp only [Ah,Bs,Ab,Bo,Bd,A0,Nc,J6,N6,Jhx,Bb,Ep,Be,Az,C0,Cb,Ba,Ai,B8,Je,Nq,Jev,Py,L2,Ig,Bg,Br,C6,D6,Du,D3,D4,Av,B0,Aq,Hb,D1,Jp,B7,Kr,Ku,He,Qn,C5,Da,Nb,Ar,Ad,Ac,Ea,List.map_cons,List.map_nil,List.getD_cons_zero,List.getD_cons_succ,List.getElem?_cons_zero,decide_eq_true_eq,Nat.reduceLT,Nat.reduceEqDiff,Int.reduceNeg,true_and,Ca,↓reduceIte,reduceCtorEq,Int.toNat_natCast,Int.natCast_nonneg,Nat.zero_add,Bool.not_false,Bool.true_and,Bool.or_true,O9,Nr,Ul,c2,hgD,hgl2,c8]
     (repeat' (first | (refine And.intro (by first | omega | (simp;done)|(simp;omega)) ?_)))
     refine ⟨(i+1,i),⟨by simp only;omega,.inr ⟨i,rfl,by simp only;omega,hf,q,hq,fun j r hj hr hd=>?_⟩⟩,by simp only;omega,(St.le_slots (by simp only [Ck,Cm,Ac,Bj,Au,Nat.reduceEqDiff,reduceIte,Nat.reduceLT,Nat.reduceLeDiff];simp (disch:=omega) [Au,Bc,Cq,Aa] <;> (repeat' apply And.intro) <;> omega) (by simp (disch:=omega) [Dj,Eo,Dg,Bh,Au,Bc,Cq,Aa]) (by simp [Dk]))⟩
     simp only at hj
     by_cases hji:j=i
     ·subst hji;rw [hq] at hr;cases hr;exact Oh _
     ·rw [h2 j (by omega)] at hd;cases hd
    ·have hgl:(Fq l)[b]? = some [.str p.1]:=by simp [Fq,h4]
     have c8:((b:Int)<0)=False:=eq_false (by omega)
     cases hlt2:Op.bytesLess q.1 p.1 with
     | true =>
      have hbq:=hlt2
      (refine Ax hm _ _ _ ?_;simp only [Ch,Ah,Bn,Bs,Ci,Ab,Bd,A0,Bb,Be,Ba,B8,Eg,Iv,Br,Av,Aq,D1,D9,D0,Ad,Ac,List.map_cons,List.map_nil,decide_eq_true_eq,Nat.reduceLT,Nat.reduceEqDiff,Int.reduceNeg,Ca,↓reduceIte,reduceCtorEq,Bool.or_false,Mi,Fp,c2])
      (repeat' (first | (refine And.intro (by first | omega | (simp;done)|(simp;omega)) ?_)))
      refine A9 hm (by rfl) (by kernel_rfl) ?_
      simp only [Ah,Bs,Ab,Bo,Bd,A0,Nc,J6,N6,Jhx,Bb,Be,Az,C0,Cb,Ba,Ai,B8,Je,Nq,Jev,Py,L2,Ig,Bg,Br,C6,D6,Du,D3,D4,Av,F4,B0,Aq,Hb,D1,Jhz,Jp,Eh,B7,D7,Kr,Ku,He,Qn,C5,C4,Da,Nb,Ar,Ad,Ac,Ea,List.map_cons,List.map_nil,List.getD_cons_zero,List.getD_cons_succ,List.length_cons,List.length_nil,List.getElem?_cons_zero,decide_eq_true_eq,Nat.reduceLT,Nat.reduceEqDiff,Int.reduceNeg,true_and,Ca,↓reduceIte,reduceCtorEq,Int.toNat_natCast,Int.natCast_nonneg,Nat.zero_add,Bool.not_false,Bool.false_eq_true,Bool.true_and,Bool.or_false,Bool.or_true,O9,Nr,L9,Kw,K2,Ul,c2,hgn,hgD,hgl,hgl2,c8,hbq]
      (repeat' (first | (refine And.intro (by first | omega | (simp;done)|(simp;omega)) ?_)))
      refine ⟨(i+1,i),⟨by simp only;omega,.inr ⟨i,rfl,by simp only;omega,hf,q,hq,fun j r hj hr hd=>?_⟩⟩,by simp only;omega,(St.le_slots (by simp only [Ck,Cm,Ac,Bj,Au,Nat.reduceEqDiff,reduceIte,Nat.reduceLT,Nat.reduceLeDiff];simp (disch:=omega) [Au,Bc,Cq,Aa] <;> (repeat' apply And.intro) <;> omega) (by simp (disch:=omega) [Dj,Eo,Dg,Bh,Au,Bc,Cq,Aa]) (by simp [Dk]))⟩
      simp only at hj
      by_cases hji:j=i
      ·subst hji;rw [hq] at hr;cases hr;exact Oh _
      ·exact Jp1 (Yf hlt2) (h5 j r (by omega) hr hd)
     | false =>
      have hbq:=hlt2
      (refine Ax hm _ _ _ ?_;simp only [Ch,Ah,Bn,Bs,Ci,Ab,Bd,A0,Bb,Be,Ba,B8,Eg,Iv,Br,Av,Aq,D1,D9,D0,Ad,Ac,List.map_cons,List.map_nil,decide_eq_true_eq,Nat.reduceLT,Nat.reduceEqDiff,Int.reduceNeg,Ca,↓reduceIte,reduceCtorEq,Bool.or_false,Mi,Fp,c2])
      (repeat' (first | (refine And.intro (by first | omega | (simp;done)|(simp;omega)) ?_)))
      refine A9 hm (by rfl) (by kernel_rfl) ?_
      simp only [Ch,Ah,Bs,Ab,Bo,Bd,A0,Nc,J6,N6,Jhx,Bb,Be,Az,C0,Cb,Ba,Ai,B8,Je,Nq,Jev,Py,L2,Ig,Bg,Br,C6,D6,Du,D3,D4,Av,F4,B0,Aq,Hb,D1,Jhz,Jp,Eh,B7,D7,Kr,Ku,He,Qn,C5,C4,Da,Nb,Ar,Ad,Ac,Ea,List.map_cons,List.map_nil,List.getD_cons_zero,List.getD_cons_succ,List.length_cons,List.length_nil,List.getElem?_cons_zero,decide_eq_true_eq,Nat.reduceLT,Nat.reduceEqDiff,Int.reduceNeg,true_and,Ca,↓reduceIte,reduceCtorEq,Int.toNat_natCast,Int.natCast_nonneg,Nat.zero_add,Bool.not_false,Bool.false_eq_true,Bool.true_and,Bool.or_false,Bool.or_true,O9,Nr,L9,Kw,K2,Ul,c2,hgn,hgD,hgl,hgl2,c8,hbq]
      (repeat' (first | (refine And.intro (by first | omega | (simp;done)|(simp;omega)) ?_)))
      refine ⟨(i+1,b),⟨by simp only;omega,.inr ⟨b,rfl,by simp only;omega,h3,p,h4,fun j r hj hr hd=>?_⟩⟩,by simp only;omega,(St.le_slots (by simp only [Ck,Cm,Ac,Bj,Au,Nat.reduceEqDiff,reduceIte,Nat.reduceLT,Nat.reduceLeDiff];simp (disch:=omega) [Au,Bc,Cq,Aa] <;> (repeat' apply And.intro) <;> omega) (by simp (disch:=omega) [Dj,Eo,Dg,Bh,Au,Bc,Cq,Aa]) (by simp [Dk]))⟩
      simp only at hj
      by_cases hji:j=i
      ·subst hji;rw [hq] at hr;cases hr;exact hlt2
      ·exact h5 j r (by omega) hr hd
end Go.LX
