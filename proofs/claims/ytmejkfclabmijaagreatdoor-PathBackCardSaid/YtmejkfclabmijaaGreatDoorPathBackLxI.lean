/- Values: names, fields. -/
import Derived.Test.YtmejkfclabmijaaGreatDoorPathBackLxH
set_option linter.unusedSimpArgs false
set_option linter.unusedVariables false
set_option linter.unusedSectionVars false
set_option linter.unnecessarySimpa false
set_option maxRecDepth 100000
set_option maxHeartbeats 2000000
namespace Go.LX
open Go Go.RowKit Go.Proofs
attribute [local irreducible] Bz SWP Gm
def Fq (l:List (List UInt8×Tree)):List (List PV):=l.map fun p=>[.str p.1]
@[simp] theorem Jpm:Fq []=[]:=rfl
theorem Fp (l:List (List UInt8×Tree)):(Fq l).length=l.length:=by simp [Fq]
theorem Wz {l:List (List UInt8×Tree)} {k:Nat} {p:List UInt8×Tree} (h:l[k]? = some p):Fq (l.take (k+1))=Fq (l.take k) ++ [[.str p.1]]:=by
 rw [List.take_add_one,h]
 simp [Fq]
theorem Mu (nm:List UInt8) (kd:Int) (s:List UInt8) (g:Bool) (e:Int) (kids:Forest):(valL ((Tree.mk kd s g e kids).enc nm))[0]? = some [.int .i64 kd,.int .i64 kids.len,.str nm,.str s,.bool g,.int .i64 e]:=by
 rw [Ga];rfl
def Kh (name:List UInt8) (l:List (List UInt8×Tree)):Option Tree:=match l with
 | []=>none
 | p :: l=>if p.1=name then some p.2 else Kh name l
theorem Jds {name:List UInt8}:∀ {l:List (List UInt8×Tree)},(∀ p∈l,p.1≠name)→Kh name l=none
 | [],_=>rfl
 | p :: l,h=>by
  rw [Kh,if_neg (h p List.mem_cons_self)]
  exact Jds fun q hq=>h q (List.mem_cons_of_mem _ hq)
theorem Jdt {name:List UInt8}:∀ {l:List (List UInt8×Tree)} {k:Nat} {p:List UInt8×Tree},l[k]? = some p→p.1=name→(∀ q∈l.take k,q.1≠name)→Kh name l=some p.2
 | [],k,p,h,_,_=>by simp at h
 | q :: l,0,p,h,hn,_=>by
  simp at h;subst h
  rw [Kh,if_pos hn]
 | q :: l,k+1,p,h,hn,ht=>by
  rw [List.take_succ_cons] at ht
  rw [Kh,if_neg (ht q List.mem_cons_self)]
  exact Jdt (by simpa using h) hn fun x hx=>ht x (List.mem_cons_of_mem _ hx)
def Jlz:Option Tree→L
 | some t=>.tup [.sl (valL (t.enc [])),.bool true]
 | none=>.tup [.snil,.bool false]
theorem Jn5 (nm:List UInt8) (s:List UInt8) (g:Bool) (e:Int) (kids:Forest) (name:List UInt8) (hv:kids.enc.length≤999999):Det cx 121 [.p (.sl (valL ((Tree.mk 6 s g e kids).enc nm))),.p (.str name)] [] (Jlz (Kh name kids.list)) []:=by
 skip
 (refine Bz.of_code (X:=cx) false [] (by simp) Tryz.func121 (by kernel_rfl) rfl (by simp only [List.length_cons,List.length_nil,Tryz.ntmps121];decide) (by simp) ?_;refine Ax hm _ _ _ ?_;simp only [Tryz.ntmps121,Tryz.results121,Ch,Ah,Bn,Bs,Ab,Bd,A0,Bb,Cs,Be,Az,Ce,Cb,Ba,B8,D5,C2,Cp,H2,T0,Cc,Bp,Bg,Br,Av,B0,Aq,Ll,Eh,B7,D7,He,Cv,Gi,C5,C4,G7,H5,P3,T7,Cr,Kx,Ag,Ae,A3,Cd,Bv,Bm,Bx,Bw,A5,B3,Bi,Ay,A4,B1,Cw,Hw,E6,H3,Cj,Ad,Ac,Bl,Bf,A6,argW,List.map_cons,List.map_nil,List.length_cons,List.length_nil,List.append_nil,List.flatMap_cons,List.flatMap_nil,List.drop_zero,List.getElem?_cons_zero,bne_iff_ne,ne_eq,not_true_eq_false,Nat.reduceLT,Nat.reduceLeDiff,Nat.reduceEqDiff,Nat.reduceAdd,Int.reduceToNat,Int.reduceLE,true_and,Ca,Bu,↓reduceIte,reduceCtorEq,Nat.zero_add,Bool.true_and,Bool.or_true,Om,Mj,f_z4,Jk,O1,K1,Mu])
 (repeat' (first | (refine iteI (fun h=>?_) (fun h=>?_))|(refine B2 (by first | omega | (simp (disch:=omega) only [Aa,Ak,Aj] at *;omega)) ?_;intro b hb)|(refine And.intro (by first | omega | (simp (disch:=omega) only [Aa,Ak,Aj] at *;omega)) ?_)|((first | (refine A9 hm (by rfl) (by kernel_rfl) ?_)|(refine Det.use (R5 _) ?_)|(refine Det.useQ (R5 _) ?_));simp only [Ci,Ab,Bd,Cs,H4,Hv,Dn,G4,Gc,Df,Gu,Hm,K8,E4,E2,Hr,G9,Gv,Jd,Bk,I4,Gx,Fh,Fx,Dy,B3,E3,Tk,Il,F9,Xe,Ar,Ds,Fl,Db,Ad,Cg,Bf,A6,List.map_cons,List.map_nil,List.cons_append,List.nil_append,decide_eq_true_eq,ne_eq,not_false_eq_true,Nat.reduceLT,Nat.reduceEqDiff,↓reduceIte])|(exact True.intro)|(exfalso;omega)))
 (refine SWP.range (Mh kids) 21 [] (by simp) _ _ _ _ _ (fun k R=>R=[(1000,.var 4 [.p (.bool false)]),(1001,.var 34 [.p .snil]),(1002,.var 9 [.p (.str name)])]∧∀ p∈kids.list.take k,p.1≠name) (fun x R=>x=.ret∧∃ t,Kh name kids.list=some t∧R=[(1000,.var 4 [.p (.bool true)]),(1001,.var 34 [.p (.sl (valL (t.enc [])))])]) (by rfl) (by rfl) (by rfl) (Jc2 nm 6 s g e kids hv) (by simp only [Gs,D8,Dv,Kt,Jg,Oy,Kb,Zk,Dc,Bf,A6,List.map_cons,List.map_nil,List.contains_cons,List.contains_nil,Nat.reduceEqDiff,↓reduceIte,Bool.or_false,beq_self_eq_true] <;> rfl) (by first | rfl | simp [Jz]) (by simp) ?hps (by simp only [Su,Sp,Nat.reduceAdd,Nat.zero_add] <;> rfl) (by simp only [Dt,B3,E3,Il,Hq,F9,Jf6,Oa,Cg,Bf,A6,Nat.reduceLT,Nat.reduceEqDiff,↓reduceIte] <;> rfl) (by simp only [Dt,F2,Ff,Fe,Dy,B3,List.map_cons,List.map_nil,Nat.reduceEqDiff,↓reduceIte] <;> rfl) ?h0 ?hkI ?hkS ?hSn ?round ?done ?stop)
 case hps=>exact fun x hx=>Po hx
 case h0=>exact ⟨rfl,by simp⟩
 case hkI=>rintro k R ⟨rfl,_⟩;simp [Rz,findKey]
 case hkS=>rintro x R ⟨_,t,_,rfl⟩;simp [Rz,findKey]
 case hSn=>rintro R ⟨h,_⟩;cases h
 case stop =>
  rintro x R ⟨rfl,t,ht,rfl⟩
  rw [ht]
  simp only [J3,Fw,Df,Eb,Gu,G5,E4,E2,Fg,Fm,Lv,Fi,Gv,Ih,Dp,Bk,Dt,Dy,B3,A1,Ar,List.map_cons,List.map_nil,List.nil_append,Nat.reduceLeDiff,Nat.reduceEqDiff,↓reduceIte]
  refine ⟨_,St.Le.refl _,?_⟩
  simp only [Cf,Ei,Bg,C5,Da,Ej,Ag,Bt,Cy,Cz,A7,L0,B9,Aw,Ao,Al,B5,B6,Af,Am,J1,De,A1,Ar,A2,Ac,List.getElem?_cons_zero,Nat.reduceLT,Nat.reduceEqDiff,true_and,and_true,↓reduceIte,Bool.true_and,Bool.and_true,O9,Nr,Qa,Mx]
  rfl
 case done =>
  rintro R ⟨rfl,hno⟩
  rw [Oc,List.take_of_length_le (by rw [Forest.list_len];exact Nat.le_refl _)] at hno
  rw [Jds hno]
  simp only [J3,Fw,Df,Eb,Gu,G5,E4,E2,Fg,Fm,Fi,Gv,Ih,Dp,Bk,Dt,Dy,B3,Ar,List.map_cons,List.map_nil,List.nil_append,Nat.reduceLeDiff,Nat.reduceEqDiff,↓reduceIte]
  refine ⟨_,St.Le.refl _,?_⟩
  simp only [Ah,Bn,Cn,Ab,Bo,Bd,A0,Dd,Be,Az,C0,E1,Gn,Bp,Bg,C5,Da,Ej,Sr,Jfs,Jw,Gl,Jc,Fj,Ag,Bt,Cy,Cz,A7,L0,B9,Aw,Ao,Al,B5,B6,Af,Am,J1,De,A1,Ar,Cu,A2,Ac,List.map_cons,List.map_nil,List.length_cons,List.length_nil,List.nil_append,List.append_nil,List.take_zero,List.drop_succ_cons,List.drop_nil,List.getElem?_cons_zero,ne_eq,not_false_eq_true,Nat.reduceLT,Nat.reduceLeDiff,Nat.reduceEqDiff,true_and,and_true,Ca,↓reduceIte,reduceCtorEq,Nat.zero_add,Bool.true_and,Bool.and_true,O9,Nr,Qa,Mx]
  rfl
 case round =>
  rintro k x R l hx ⟨rfl,hno⟩
  obtain ⟨p,hp,rfl⟩:=Pu hx
  simp only [Bd,A0,Bb,Be,Ai,Rb,a_seq,L3,Ml,Ad,Ac,List.map_cons,List.map_nil,ne_eq,Nat.reduceLT,Nat.reduceEqDiff,↓reduceIte]
  (refine Ax hm _ _ _ ?_;simp only [Ch,Ah,Bn,Bs,Ci,Cn,Ab,Bo,Ei,Bd,A0,Bb,Dd,Be,Az,C0,Ba,B8,D5,Gn,Bp,Bg,Br,F4,Aq,Pz,C5,Da,Ej,Sr,Lz,Jw,Gl,Jc,Fj,Af,Ar,Cu,Ok,kr_ret,Ad,Ac,List.map_cons,List.map_nil,List.length_cons,List.length_nil,List.nil_append,List.append_nil,List.take_zero,List.drop_succ_cons,List.drop_nil,List.getElem?_cons_zero,beq_iff_eq,ne_eq,not_false_eq_true,Nat.reduceLT,Nat.reduceLeDiff,Nat.reduceEqDiff,true_and,Ca,↓reduceIte,reduceCtorEq,Nat.zero_add,Bool.true_and,Bool.or_false,Nr,L9,Kw,Mx])
  (repeat' (first | (refine iteI (fun h=>?_) (fun h=>?_))|(refine B2 (by first | omega | (simp (disch:=omega) only [Aa,Ak,Aj] at *;omega)) ?_;intro b hb)|(refine And.intro (by first | omega | (simp (disch:=omega) only [Aa,Ak,Aj] at *;omega)) ?_)|((first | (refine A9 hm (by rfl) (by kernel_rfl) ?_));simp only [Dm])|(exact True.intro)|(exfalso;omega)))
  ·exact ⟨_,⟨p.2,Jdt hp (by assumption) hno,rfl⟩,(St.le_slots (by simp only [Cm]) (by simp (disch:=omega) [Dj,Eo,Dg,Bh,Au,Bc,Cq,Aa]) (by simp [Dk]))⟩
  ·refine ⟨_,⟨rfl,fun q hq=>?_⟩,(St.le_slots (by simp only [Cm]) (by simp (disch:=omega) [Dj,Eo,Dg,Bh,Au,Bc,Cq,Aa]) (by simp [Dk]))⟩
   rw [List.take_add_one,hp] at hq
   rcases List.mem_append.1 hq with hq | hq
   ·exact hno q hq
   ·simp at hq;subst hq;assumption
def Dz (l:List (List UInt8×Tree)):Forest:=match l with
 | []=>.nil
 | p :: l=>.cons p.1 p.2 (Dz l)
theorem Tl:∀ f:Forest,Dz f.list=f
 | .nil=>rfl
 | .cons nm t r=>by simp only [Forest.list,Dz,Tl r]
theorem Sx:∀ a b:List (List UInt8×Tree),Dz (a ++ b)=(Dz a).app (Dz b)
 | [],b=>rfl
 | p :: a,b=>by simp only [List.cons_append,Dz,Forest.app,Sx a b]
theorem Jv:∀ l:List (List UInt8×Tree),(Dz l).len=l.length
 | []=>rfl
 | p :: l=>by simp only [Dz,Forest.len,Jv l,List.length_cons]
theorem Rm:∀ l:List (List UInt8×Tree),(Dz l).list=l
 | []=>rfl
 | p :: l=>by simp only [Dz,Forest.list,Rm l]
def hdR (n:Nat):List PV:=[.int .i64 6,.int .i64 n,.str [],.str [],.bool false,.int .i64 0]
theorem d_laid (l:List (List UInt8×Tree)) (hv:(Dz l).enc.length≤999999):Det cx 126 [.p (.sl (Fq l)),.p (.sl (El l))] [] (.p (.sl (valL ((Tree.mk 6 [] false 0 (Dz l)).enc [])))) []:=by
 have hll:=Forest.len_le (Dz l)
 rw [Jv] at hll
 skip
 (refine Bz.of_code (X:=cx) false [] (by simp) Tryz.func126 (by kernel_rfl) rfl (by simp only [List.length_cons,List.length_nil,Tryz.ntmps126];decide) (by simp) ?_;refine Ax hm _ _ _ ?_;simp only [Tryz.ntmps126,Tryz.results126,Ah,Bn,Ci,H9,Ab,Bd,A0,Bb,Cs,Be,Az,Cb,E1,Ba,Ai,N0,Eg,Di,Bp,D9,D0,K7,L6,N1,Kd,Lh,N7,Cr,Gj,Ag,Ae,A3,Ib,Jm,Ii,Dh,Jl,Gz,G8,Ha,G6,H7,H1,B1,E6,Ds,Fl,Db,Hf,Ad,Ac,Bl,Bf,A6,argW,List.map_cons,List.map_nil,List.length_cons,List.length_nil,List.set_cons_zero,List.set_cons_succ,Nat.reduceLT,Nat.reduceLeDiff,Nat.reduceEqDiff,Nat.reduceAdd,Nat.reduceMul,true_and,Ca,↓reduceIte,reduceCtorEq,Nat.zero_add,Bool.true_and,Bool.and_true,beq_self_eq_true,and_self,Mj,Jk,O4,K1,Kj,Yj,Rr,E5,wj1 (i:=0) (by omega)])
 (repeat' (first | (refine iteI (fun h=>?_) (fun h=>?_))|(refine B2 (by first | omega | (simp (disch:=omega) only [Aa,Ak,Aj] at *;omega)) ?_;intro b hb)|(refine And.intro (by first | omega | (simp (disch:=omega) only [Aa,Ak,Aj] at *;omega)) ?_)|((first | (refine A9 hm (by rfl) (by kernel_rfl) ?_));simp only [Dm])|(exact True.intro)|(exfalso;omega)))
 refine SWP.loop (fun x:Nat×Nat×List (List PV)=>⟨Fo 35 [(0,.p (.sl (Fq l))),(5,.own 12 0 x.2.1),(13,.p (.sl (El l))),(14,.p (.int .i64 l.length)),(15,.p (.int .i64 x.1))],[(12,.row 53 6 x.2.2)]⟩) (fun x=>x.1≤l.length∧x.2.1=(Dz (l.take x.1)).enc.length+1∧x.2.2=hdR l.length :: valL (Dz (l.take x.1)).enc) (fun x=>l.length - x.1) (0,1,[hdR l.length]) (by unfold hdR;exact (St.le_slots (by simp only [Ck,Cm,Ac,Bj,Au,Nat.reduceEqDiff,reduceIte,Nat.reduceLT,Nat.reduceLeDiff];simp (disch:=omega) [Au,Bc,Cq,Aa] <;> (repeat' apply And.intro) <;> omega) (by simp (disch:=omega) [Dj,Eo,Dg,Bh,Au,Bc,Cq,Aa]) (by simp [Dk]))) ⟨Nat.zero_le _,rfl,rfl⟩ ?_
 rintro ⟨k,m,es⟩ ⟨hk,hm',hes⟩
 simp only at hk hm' hes
 by_cases hlt:¬ k<l.length
 ·have hml:es.length=m:=by rw [hes,hm'];simp
  have htk:es.take m=es:=List.take_of_length_le (by omega)
  have htl:l.take k=l:=List.take_of_length_le (by omega)
  rw [htl] at hes hm'
  have hkl:((k:Int)<(l.length:Int))=False:=eq_false (by omega)
  skip
  (refine Ax hm _ _ _ ?_;simp only [Ah,Bn,Bs,Fd,Cn,Ab,Co,B4,Bd,A0,Bb,Be,Ba,Ai,B8,Br,Av,Aq,D1,Ag,Ae,F8,Gq,Fk,Gs,Bt,Cy,Cz,A7,A8,B9,Aw,Ao,Al,B5,B6,Af,Am,Ap,Cl,A1,Ar,D8,Dv,Jg,Hy,A2,Ad,Ac,Dc,Bf,A6,Ea,List.map_cons,List.map_nil,List.drop_zero,decide_eq_true_eq,Nat.reduceLT,Nat.reduceEqDiff,and_true,Ca,↓reduceIte,reduceCtorEq,Nat.zero_add,L.p.injEq,Bool.and_true,Bool.or_false,wj1 (i:=0) (by omega),hkl,hml,htk,Nat.le_refl])
  rw [hes,Ga,Jv]
  rfl
 ·have hlt:=Decidable.not_not.1 hlt
  obtain ⟨p,hp⟩:∃ p,l[k]? = some p:=⟨_,List.getElem?_eq_getElem hlt⟩
  have hml:es.length=m:=by rw [hes,hm'];simp
  have htk:es.take m=es:=List.take_of_length_le (by omega)
  have hpl:(El l)[k]? = some [.sl (valL (p.2.enc []))]:=by simp [El,hp]
  have hnl:(Fq l)[k]? = some [.str p.1]:=by simp [Fq,hp]
  obtain ⟨⟨nm',t⟩,rfl⟩:∃ q,q=p:=⟨p,rfl⟩
  cases t with
  | mk kd' s' g' e' kids' =>
  have hge:(es ++ valL ((Tree.mk kd' s' g' e' kids').enc []))[m]? = some [.int .i64 kd',.int .i64 kids'.len,.str [],.str s',.bool g',.int .i64 e']:=by
   rw [List.getElem?_append_right (by omega),hml,Nat.sub_self,Ga];rfl
  have hkl:((k:Int)<(l.length:Int))=True:=eq_true (by omega)
  have htk1:Dz (l.take (k+1))=(Dz (l.take k)).app (.cons nm' (.mk kd' s' g' e' kids') .nil):=by
   rw [List.take_add_one,hp,Sx];rfl
  have hsum:(Dz (l.take (k+1))).enc.length≤(Dz l).enc.length:=by
   have e1:Dz l=(Dz (l.take (k+1))).app (Dz (l.drop (k+1))):=by rw [← Sx,List.take_append_drop]
   rw [e1,Forest.enc_app,List.length_append];omega
  rw [htk1,Forest.enc_app,List.length_append,Er,Jf,List.append_nil,Ga,List.length_cons] at hsum
  have h6:=Ou ((Tree.mk kd' s' g' e' kids').enc [])
  have hvl:((Tree.mk kd' s' g' e' kids').enc []).length=kids'.enc.length+1:=by rw [Ga];rfl
  have hsp:(es ++ valL ((Tree.mk kd' s' g' e' kids').enc [])).set m [.int .i64 kd',.int .i64 kids'.len,.str nm',.str s',.bool g',.int .i64 e']=es ++ valL ((Tree.mk kd' s' g' e' kids').enc nm'):=by
   rw [List.set_append_right _ _ (by omega),hml,Nat.sub_self,Ga,Ga];rfl
  skip
  (refine Ax hm _ _ _ ?_;simp only [Ch,Ah,Bn,Bs,Ci,Ab,Bo,Bd,A0,Bb,Dd,Cs,Be,Az,Cb,Ba,Ai,B8,D5,Gn,C2,Cp,Eg,Fy,Bp,Bg,Br,Av,B0,Aq,Hb,D1,D9,Gg,Eh,B7,D7,Kr,Ku,He,Cv,Gd,C5,C4,Cr,G1,Kx,Vb,T9,U4,Rs,Gl,Jc,Ob,Ag,Ae,A3,Ii,G0,F1,Pr,Lu,Gb,Km,Ar,B1,Cw,Cu,E6,G2,I5,F5,Ds,Fl,Db,Hf,Ad,Ac,Bl,Bf,A6,Ea,List.map_cons,List.map_nil,List.length_cons,List.length_nil,List.cons_append,List.nil_append,List.take_succ_cons,List.take_zero,List.drop_succ_cons,List.drop_zero,List.getElem?_cons_zero,decide_eq_true_eq,ne_eq,not_false_eq_true,Nat.reduceLT,Nat.reduceLeDiff,Nat.reduceEqDiff,Nat.reduceAdd,true_and,Ca,↓reduceIte,reduceCtorEq,Int.toNat_natCast,Int.natCast_nonneg,Nat.zero_add,Bool.true_and,Bool.or_false,Bool.or_true,L9,Kw,Qb,Qa,Mx,Jk,Ld,Tb,Rr,Xa,K2,wj1 (i:=0) (by omega),hkl,hml,hkl,hml,hpl,hnl,hge,hsp,Iz,hvl,wj1 (i:=k) (by omega)])
  refine ⟨h6,by omega,by omega,by omega,(k+1,m+(kids'.enc.length+1),es ++ valL ((Tree.mk kd' s' g' e' kids').enc nm')),⟨by simp only;omega,?_,?_⟩,by simp only;omega,?_⟩
  ·simp only
   rw [htk1,Forest.enc_app,List.length_append,Er,Jf,List.append_nil,Ga,List.length_cons];omega
  ·simp only
   rw [htk1,Forest.enc_app,U3,Er,Jf,List.append_nil,← List.cons_append,← hes]
  ·refine St.Le.trans (Ix [(24,12)] _ (by simp)) ?_
   simp only [Bk,E8,C1,B3,E3,Dl,Il,Hq,F9,Ek,Af,Ct,F3,Fa,Dx,C9,C8,Cg,Bf,A6,↓reduceIte,wj1 (i:=0) (by omega),wj1 (i:=k) (by omega)]
   exact (St.le_slots (by simp only [Ck,Cm,Ac,Bj,Au,Nat.reduceEqDiff,reduceIte,Nat.reduceLT,Nat.reduceLeDiff];simp (disch:=omega) [Au,Bc,Cq,Aa] <;> (repeat' apply And.intro) <;> omega) (by simp (disch:=omega) [Dj,Eo,Dg,Bh,Au,Bc,Cq,Aa]) (by simp [Dk]))
end Go.LX
