/- Values: names, fields. -/
import Derived.Test.YtmejkfclabmijaaGreatDoorPathTextsLxH
set_option linter.unusedSimpArgs false
set_option linter.unusedVariables false
set_option linter.unusedSectionVars false
set_option linter.unnecessarySimpa false
set_option maxRecDepth 100000
set_option maxHeartbeats 2000000
namespace Go.LX
open Go Go.RowKit Go.Proofs
attribute [local irreducible] B2 SWP Hb
def Gd (l:List (List UInt8×Tree)):List (List PV):=l.map fun p=>[.str p.1]
@[simp] theorem Jre:Gd []=[]:=rfl
theorem Gc (l:List (List UInt8×Tree)):(Gd l).length=l.length:=by simp [Gd]
theorem Xg {l:List (List UInt8×Tree)} {k:Nat} {p:List UInt8×Tree} (h:l[k]? = some p):Gd (l.take (k+1))=Gd (l.take k) ++ [[.str p.1]]:=by
 rw [List.take_add_one,h]
 simp [Gd]
theorem Nn (nm:List UInt8) (kd:Int) (s:List UInt8) (g:Bool) (e:Int) (kids:Forest):(valL ((Tree.mk kd s g e kids).enc nm))[0]? = some [.int .i64 kd,.int .i64 kids.len,.str nm,.str s,.bool g,.int .i64 e]:=by
 rw [Gx];rfl
def K9 (name:List UInt8) (l:List (List UInt8×Tree)):Option Tree:=match l with
 | []=>none
 | p :: l=>if p.1=name then some p.2 else K9 name l
theorem Je3 {name:List UInt8}:∀ {l:List (List UInt8×Tree)},(∀ p∈l,p.1≠name)→K9 name l=none
 | [],_=>rfl
 | p :: l,h=>by
  rw [K9,if_neg (h p List.mem_cons_self)]
  exact Je3 fun q hq=>h q (List.mem_cons_of_mem _ hq)
theorem Jct {name:List UInt8}:∀ {l:List (List UInt8×Tree)} {k:Nat} {p:List UInt8×Tree},l[k]? = some p→p.1=name→(∀ q∈l.take k,q.1≠name)→K9 name l=some p.2
 | [],k,p,h,_,_=>by simp at h
 | q :: l,0,p,h,hn,_=>by
  simp at h;subst h
  rw [K9,if_pos hn]
 | q :: l,k+1,p,h,hn,ht=>by
  rw [List.take_succ_cons] at ht
  rw [K9,if_neg (ht q List.mem_cons_self)]
  exact Jct (by simpa using h) hn fun x hx=>ht x (List.mem_cons_of_mem _ hx)
def Jnk:Option Tree→L
 | some t=>.tup [.sl (valL (t.enc [])),.bool true]
 | none=>.tup [.snil,.bool false]
theorem Jo5 (nm:List UInt8) (s:List UInt8) (g:Bool) (e:Int) (kids:Forest) (name:List UInt8) (hv:kids.enc.length≤999999):Det cx 121 [.p (.sl (valL ((Tree.mk 6 s g e kids).enc nm))),.p (.str name)] [] (Jnk (K9 name kids.list)) []:=by
 skip
 (refine B2.of_code (X:=cx) false [] (by simp) Tryz.func121 (by kernel_rfl) rfl (by simp only [List.length_cons,List.length_nil,Tryz.ntmps121];decide) (by simp) ?_;refine Ax hm _ _ _ ?_;simp only [Tryz.ntmps121,Tryz.results121,Cb,Ah,Bm,Br,Ab,Bd,A1,Bc,Ct,Bf,A0,Ch,Ca,A9,B8,Ed,C8,Cv,Hv,Un,Cg,Bo,Bl,Bq,Au,Bt,Ar,Kx,Eo,Cj,Ei,G8,C0,Gb,C5,Dd,Gy,Hw,Qp,Um,Cu,Lh,Ag,Ae,A3,Cf,Bv,Bi,Bz,Bx,A4,B6,Bh,Az,A5,B4,C4,Hy,Ez,H8,Cl,Ad,Ac,Bn,Bg,Bb,argW,List.map_cons,List.map_nil,List.length_cons,List.length_nil,List.append_nil,List.flatMap_cons,List.flatMap_nil,List.drop_zero,List.getElem?_cons_zero,bne_iff_ne,ne_eq,not_true_eq_false,Nat.reduceLT,Nat.reduceLeDiff,Nat.reduceEqDiff,Nat.reduceAdd,Int.reduceToNat,Int.reduceLE,true_and,Cc,Bw,↓reduceIte,reduceCtorEq,Nat.zero_add,Bool.true_and,Bool.or_true,Ox,Mm,f_z4,Kc,Ph,Lm,Nn])
 (repeat' (first | (refine iteI (fun h=>?_) (fun h=>?_))|(refine B1 (by first | omega | (simp (disch:=omega) only [Aa,Ak,Ai] at *;omega)) ?_;intro b hb)|(refine And.intro (by first | omega | (simp (disch:=omega) only [Aa,Ak,Ai] at *;omega)) ?_)|((first | (refine Ba hm (by rfl) (by kernel_rfl) ?_)|(refine Det.use (Sn _) ?_)|(refine Det.useQ (Sn _) ?_));simp only [Ce,Ab,Bd,Ct,Iw,Ik,D3,Hq,G2,Dz,Hk,H6,Lo,Fm,Fh,Ih,Hs,Hl,Jz,Bu,Jt,Hm,Ft,Gl,Eg,B6,Fi,T9,Jl,Gw,Y2,Aw,C7,El,Cz,Ad,Cq,Bg,Bb,List.map_cons,List.map_nil,List.cons_append,List.nil_append,decide_eq_true_eq,ne_eq,not_false_eq_true,Nat.reduceLT,Nat.reduceEqDiff,↓reduceIte])|(exact True.intro)|(exfalso;omega)))
 (refine SWP.range (M8 kids) 21 [] (by simp) _ _ _ _ _ (fun k R=>R=[(1000,.var 4 [.p (.bool false)]),(1001,.var 34 [.p .snil]),(1002,.var 9 [.p (.str name)])]∧∀ p∈kids.list.take k,p.1≠name) (fun x R=>x=.ret∧∃ t,K9 name kids.list=some t∧R=[(1000,.var 4 [.p (.bool true)]),(1001,.var 34 [.p (.sl (valL (t.enc [])))])]) (by rfl) (by rfl) (by rfl) (Jc5 nm 6 s g e kids hv) (by simp only [F4,Dx,Dk,Kn,I9,Pg,Kh,Zi,C6,Bg,Bb,List.map_cons,List.map_nil,List.contains_cons,List.contains_nil,Nat.reduceEqDiff,↓reduceIte,Bool.or_false,beq_self_eq_true] <;> rfl) (by first | rfl | simp [Kv]) (by simp) ?hps (by simp only [S6,Sy,Nat.reduceAdd,Nat.zero_add] <;> rfl) (by simp only [D7,B6,Fi,Jl,H7,Gw,Jgn,O0,Cq,Bg,Bb,Nat.reduceLT,Nat.reduceEqDiff,↓reduceIte] <;> rfl) (by simp only [D7,Gn,Fr,Fq,Eg,B6,List.map_cons,List.map_nil,Nat.reduceEqDiff,↓reduceIte] <;> rfl) ?h0 ?hkI ?hkS ?hSn ?round ?done ?stop)
 case hps=>exact fun x hx=>Qg hx
 case h0=>exact ⟨rfl,by simp⟩
 case hkI=>rintro k R ⟨rfl,_⟩;simp [So,findKey]
 case hkS=>rintro x R ⟨_,t,_,rfl⟩;simp [So,findKey]
 case hSn=>rintro R ⟨h,_⟩;cases h
 case stop =>
  rintro x R ⟨rfl,t,ht,rfl⟩
  rw [ht]
  simp only [Kt,Gk,Dz,Es,Hk,Hp,Fm,Fh,Fs,Fx,Mg,Fv,Hl,Jd,D6,Bu,D7,Eg,B6,Ay,Aw,List.map_cons,List.map_nil,List.nil_append,Nat.reduceLeDiff,Nat.reduceEqDiff,↓reduceIte]
  refine ⟨_,St.Le.refl _,?_⟩
  simp only [B3,Ea,Bl,C5,Dv,E0,Ag,Bs,Cs,Cr,A6,Ij,B9,Av,Ap,Al,B7,B5,Af,Am,Gq,Cy,Ay,Aw,A2,Ac,List.getElem?_cons_zero,Nat.reduceLT,Nat.reduceEqDiff,true_and,and_true,↓reduceIte,Bool.true_and,Bool.and_true,Pa,M1,Q1,Ng]
  rfl
 case done =>
  rintro R ⟨rfl,hno⟩
  rw [O4,List.take_of_length_le (by rw [Forest.list_len];exact Nat.le_refl _)] at hno
  rw [Je3 hno]
  simp only [Kt,Gk,Dz,Es,Hk,Hp,Fm,Fh,Fs,Fx,Fv,Hl,Jd,D6,Bu,D7,Eg,B6,Aw,List.map_cons,List.map_nil,List.nil_append,Nat.reduceLeDiff,Nat.reduceEqDiff,↓reduceIte]
  refine ⟨_,St.Le.refl _,?_⟩
  simp only [Ah,Bm,Cn,Ab,Bk,Bd,A1,C1,Bf,A0,Cw,E4,Fk,Bo,Bl,C5,Dv,E0,Tc,Jgl,Iz,Fj,Ii,Ef,Ag,Bs,Cs,Cr,A6,Ij,B9,Av,Ap,Al,B7,B5,Af,Am,Gq,Cy,Ay,Aw,Cp,A2,Ac,List.map_cons,List.map_nil,List.length_cons,List.length_nil,List.nil_append,List.append_nil,List.take_zero,List.drop_succ_cons,List.drop_nil,List.getElem?_cons_zero,ne_eq,not_false_eq_true,Nat.reduceLT,Nat.reduceLeDiff,Nat.reduceEqDiff,true_and,and_true,Cc,↓reduceIte,reduceCtorEq,Nat.zero_add,Bool.true_and,Bool.and_true,Pa,M1,Q1,Ng]
  rfl
 case round =>
  rintro k x R l hx ⟨rfl,hno⟩
  obtain ⟨p,hp,rfl⟩:=Qe hx
  simp only [Bd,A1,Bc,Bf,Aj,Rn,Jsk,Mn,Nl,Ad,Ac,List.map_cons,List.map_nil,ne_eq,Nat.reduceLT,Nat.reduceEqDiff,↓reduceIte]
  (refine Ax hm _ _ _ ?_;simp only [Cb,Ah,Bm,Br,Ce,Cn,Ab,Bk,Ea,Bd,A1,Bc,C1,Bf,A0,Cw,A9,B8,Ed,Fk,Bo,Bl,Bq,Ep,Ar,Nh,C5,Dv,E0,Tc,Mj,Iz,Fj,Ii,Ef,Af,Aw,Cp,O1,kr_ret,Ad,Ac,List.map_cons,List.map_nil,List.length_cons,List.length_nil,List.nil_append,List.append_nil,List.take_zero,List.drop_succ_cons,List.drop_nil,List.getElem?_cons_zero,beq_iff_eq,ne_eq,not_false_eq_true,Nat.reduceLT,Nat.reduceLeDiff,Nat.reduceEqDiff,true_and,Cc,↓reduceIte,reduceCtorEq,Nat.zero_add,Bool.true_and,Bool.or_false,M1,L5,Kg,Ng])
  (repeat' (first | (refine iteI (fun h=>?_) (fun h=>?_))|(refine B1 (by first | omega | (simp (disch:=omega) only [Aa,Ak,Ai] at *;omega)) ?_;intro b hb)|(refine And.intro (by first | omega | (simp (disch:=omega) only [Aa,Ak,Ai] at *;omega)) ?_)|((first | (refine Ba hm (by rfl) (by kernel_rfl) ?_));simp only [Dh])|(exact True.intro)|(exfalso;omega)))
  ·exact ⟨_,⟨p.2,Jct hp (by assumption) hno,rfl⟩,(St.le_slots (by simp only [Ck]) (by simp (disch:=omega) [Dc,Ee,C9,Bj,Aq,A8,Cm,Aa]) (by simp [De]))⟩
  ·refine ⟨_,⟨rfl,fun q hq=>?_⟩,(St.le_slots (by simp only [Ck]) (by simp (disch:=omega) [Dc,Ee,C9,Bj,Aq,A8,Cm,Aa]) (by simp [De]))⟩
   rw [List.take_add_one,hp] at hq
   rcases List.mem_append.1 hq with hq | hq
   ·exact hno q hq
   ·simp at hq;subst hq;assumption
def Ej (l:List (List UInt8×Tree)):Forest:=match l with
 | []=>.nil
 | p :: l=>.cons p.1 p.2 (Ej l)
theorem Uh:∀ f:Forest,Ej f.list=f
 | .nil=>rfl
 | .cons nm t r=>by simp only [Forest.list,Ej,Uh r]
theorem Sw:∀ a b:List (List UInt8×Tree),Ej (a ++ b)=(Ej a).app (Ej b)
 | [],b=>rfl
 | p :: a,b=>by simp only [List.cons_append,Ej,Forest.app,Sw a b]
theorem Kk:∀ l:List (List UInt8×Tree),(Ej l).len=l.length
 | []=>rfl
 | p :: l=>by simp only [Ej,Forest.len,Kk l,List.length_cons]
theorem Sc:∀ l:List (List UInt8×Tree),(Ej l).list=l
 | []=>rfl
 | p :: l=>by simp only [Ej,Forest.list,Sc l]
def hdR (n:Nat):List PV:=[.int .i64 6,.int .i64 n,.str [],.str [],.bool false,.int .i64 0]
theorem Js7 (l:List (List UInt8×Tree)) (hv:(Ej l).enc.length≤999999):Det cx 126 [.p (.sl (Gd l)),.p (.sl (E3 l))] [] (.p (.sl (valL ((Tree.mk 6 [] false 0 (Ej l)).enc [])))) []:=by
 have hll:=Forest.len_le (Ej l)
 rw [Kk] at hll
 skip
 (refine B2.of_code (X:=cx) false [] (by simp) Tryz.func126 (by kernel_rfl) rfl (by simp only [List.length_cons,List.length_nil,Tryz.ntmps126];decide) (by simp) ?_;refine Ax hm _ _ _ ?_;simp only [Tryz.ntmps126,Tryz.results126,Ah,Bm,Ce,He,Ab,Bd,A1,Bc,Ct,Bf,A0,Ca,E4,A9,Aj,Ka,Dw,Df,Bo,Ds,D4,Jb,Jc,J9,Hr,Io,Mh,Cu,E5,Ag,Ae,A3,Ht,Ji,Il,Dg,Jg,Gp,Gr,Gs,Gu,Hu,Ho,B4,Ez,C7,El,Cz,F1,Ad,Ac,Bn,Bg,Bb,argW,List.map_cons,List.map_nil,List.length_cons,List.length_nil,List.set_cons_zero,List.set_cons_succ,Nat.reduceLT,Nat.reduceLeDiff,Nat.reduceEqDiff,Nat.reduceAdd,Nat.reduceMul,true_and,Cc,↓reduceIte,reduceCtorEq,Nat.zero_add,Bool.true_and,Bool.and_true,beq_self_eq_true,and_self,Mm,Kc,Ps,Lm,Lb,Z5,Sd,Fo,wj1 (i:=0) (by omega)])
 (repeat' (first | (refine iteI (fun h=>?_) (fun h=>?_))|(refine B1 (by first | omega | (simp (disch:=omega) only [Aa,Ak,Ai] at *;omega)) ?_;intro b hb)|(refine And.intro (by first | omega | (simp (disch:=omega) only [Aa,Ak,Ai] at *;omega)) ?_)|((first | (refine Ba hm (by rfl) (by kernel_rfl) ?_));simp only [Dh])|(exact True.intro)|(exfalso;omega)))
 refine SWP.loop (fun x:Nat×Nat×List (List PV)=>⟨Fp 35 [(0,.p (.sl (Gd l))),(5,.own 12 0 x.2.1),(13,.p (.sl (E3 l))),(14,.p (.int .i64 l.length)),(15,.p (.int .i64 x.1))],[(12,.row 53 6 x.2.2)]⟩) (fun x=>x.1≤l.length∧x.2.1=(Ej (l.take x.1)).enc.length+1∧x.2.2=hdR l.length :: valL (Ej (l.take x.1)).enc) (fun x=>l.length - x.1) (0,1,[hdR l.length]) (by unfold hdR;exact (St.le_slots (by simp only [Cd,Ck,Ac,Be,Aq,Nat.reduceEqDiff,reduceIte,Nat.reduceLT,Nat.reduceLeDiff];simp (disch:=omega) [Aq,A8,Cm,Aa] <;> (repeat' apply And.intro) <;> omega) (by simp (disch:=omega) [Dc,Ee,C9,Bj,Aq,A8,Cm,Aa]) (by simp [De]))) ⟨Nat.zero_le _,rfl,rfl⟩ ?_
 rintro ⟨k,m,es⟩ ⟨hk,hm',hes⟩
 simp only at hk hm' hes
 by_cases hlt:¬ k<l.length
 ·have hml:es.length=m:=by rw [hes,hm'];simp
  have htk:es.take m=es:=List.take_of_length_le (by omega)
  have htl:l.take k=l:=List.take_of_length_le (by omega)
  rw [htl] at hes hm'
  have hkl:((k:Int)<(l.length:Int))=False:=eq_false (by omega)
  skip
  (refine Ax hm _ _ _ ?_;simp only [Ah,Bm,Br,Eh,Cn,Ab,Ci,B0,Bd,A1,Bc,Bf,A9,Aj,B8,Bq,Au,Ar,Dm,Ag,Ae,E6,Fu,En,F4,Bs,Cs,Cr,A6,A7,B9,Av,Ap,Al,B7,B5,Af,Am,Ao,Co,Ay,Aw,Dx,Dk,I9,G9,A2,Ad,Ac,C6,Bg,Bb,Dy,List.map_cons,List.map_nil,List.drop_zero,decide_eq_true_eq,Nat.reduceLT,Nat.reduceEqDiff,and_true,Cc,↓reduceIte,reduceCtorEq,Nat.zero_add,L.p.injEq,Bool.and_true,Bool.or_false,wj1 (i:=0) (by omega),hkl,hml,htk,Nat.le_refl])
  rw [hes,Gx,Kk]
  rfl
 ·have hlt:=Decidable.not_not.1 hlt
  obtain ⟨p,hp⟩:∃ p,l[k]? = some p:=⟨_,List.getElem?_eq_getElem hlt⟩
  have hml:es.length=m:=by rw [hes,hm'];simp
  have htk:es.take m=es:=List.take_of_length_le (by omega)
  have hpl:(E3 l)[k]? = some [.sl (valL (p.2.enc []))]:=by simp [E3,hp]
  have hnl:(Gd l)[k]? = some [.str p.1]:=by simp [Gd,hp]
  obtain ⟨⟨nm',t⟩,rfl⟩:∃ q,q=p:=⟨p,rfl⟩
  cases t with
  | mk kd' s' g' e' kids' =>
  have hge:(es ++ valL ((Tree.mk kd' s' g' e' kids').enc []))[m]? = some [.int .i64 kd',.int .i64 kids'.len,.str [],.str s',.bool g',.int .i64 e']:=by
   rw [List.getElem?_append_right (by omega),hml,Nat.sub_self,Gx];rfl
  have hkl:((k:Int)<(l.length:Int))=True:=eq_true (by omega)
  have htk1:Ej (l.take (k+1))=(Ej (l.take k)).app (.cons nm' (.mk kd' s' g' e' kids') .nil):=by
   rw [List.take_add_one,hp,Sw];rfl
  have hsum:(Ej (l.take (k+1))).enc.length≤(Ej l).enc.length:=by
   have e1:Ej l=(Ej (l.take (k+1))).app (Ej (l.drop (k+1))):=by rw [← Sw,List.take_append_drop]
   rw [e1,Forest.enc_app,List.length_append];omega
  rw [htk1,Forest.enc_app,List.length_append,E9,J1,List.append_nil,Gx,List.length_cons] at hsum
  have h6:=Pk ((Tree.mk kd' s' g' e' kids').enc [])
  have hvl:((Tree.mk kd' s' g' e' kids').enc []).length=kids'.enc.length+1:=by rw [Gx];rfl
  have hsp:(es ++ valL ((Tree.mk kd' s' g' e' kids').enc [])).set m [.int .i64 kd',.int .i64 kids'.len,.str nm',.str s',.bool g',.int .i64 e']=es ++ valL ((Tree.mk kd' s' g' e' kids').enc nm'):=by
   rw [List.set_append_right _ _ (by omega),hml,Nat.sub_self,Gx,Gx];rfl
  skip
  (refine Ax hm _ _ _ ?_;simp only [Cb,Ah,Bm,Br,Ce,Ab,Bk,Bd,A1,Bc,C1,Ct,Bf,A0,Ca,A9,Aj,B8,Ed,Fk,C8,Cv,Dw,F8,Bo,Bl,Bq,Au,Bt,Ar,E8,Dm,Ds,F3,Eo,Cj,Ei,Lj,Lg,G8,C0,G3,C5,Dd,Cu,G6,Lh,Vs,Vw,Vr,Sf,Fj,Ii,Oy,Ag,Ae,A3,Il,Hc,F5,P9,Me,Gg,Kz,Aw,B4,C4,Cp,Ez,G7,Jr,Ga,C7,El,Cz,F1,Ad,Ac,Bn,Bg,Bb,Dy,List.map_cons,List.map_nil,List.length_cons,List.length_nil,List.cons_append,List.nil_append,List.take_succ_cons,List.take_zero,List.drop_succ_cons,List.drop_zero,List.getElem?_cons_zero,decide_eq_true_eq,ne_eq,not_false_eq_true,Nat.reduceLT,Nat.reduceLeDiff,Nat.reduceEqDiff,Nat.reduceAdd,true_and,Cc,↓reduceIte,reduceCtorEq,Int.toNat_natCast,Int.natCast_nonneg,Nat.zero_add,Bool.true_and,Bool.or_false,Bool.or_true,L5,Kg,Qx,Q1,Ng,Kc,Lx,Tr,Sd,Yv,Ln,wj1 (i:=0) (by omega),hkl,hml,hkl,hml,hpl,hnl,hge,hsp,Js,hvl,wj1 (i:=k) (by omega)])
  refine ⟨h6,by omega,by omega,by omega,(k+1,m+(kids'.enc.length+1),es ++ valL ((Tree.mk kd' s' g' e' kids').enc nm')),⟨by simp only;omega,?_,?_⟩,by simp only;omega,?_⟩
  ·simp only
   rw [htk1,Forest.enc_app,List.length_append,E9,J1,List.append_nil,Gx,List.length_cons];omega
  ·simp only
   rw [htk1,Forest.enc_app,Ux,E9,J1,List.append_nil,← List.cons_append,← hes]
  ·refine St.Le.trans (Jh [(24,12)] _ (by simp)) ?_
   simp only [Bu,Fn,Di,B6,Fi,D2,Jl,H7,Gw,Ey,Af,C3,Gj,Fl,D8,Dr,Du,Cq,Bg,Bb,↓reduceIte,wj1 (i:=0) (by omega),wj1 (i:=k) (by omega)]
   exact (St.le_slots (by simp only [Cd,Ck,Ac,Be,Aq,Nat.reduceEqDiff,reduceIte,Nat.reduceLT,Nat.reduceLeDiff];simp (disch:=omega) [Aq,A8,Cm,Aa] <;> (repeat' apply And.intro) <;> omega) (by simp (disch:=omega) [Dc,Ee,C9,Bj,Aq,A8,Cm,Aa]) (by simp [De]))
end Go.LX
