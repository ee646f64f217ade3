/- Rows into which something is laid in the middle. -/
import Derived.Test.YtmejkfclabmijaaGreatDoorPathTextsLxI
import Derived.Test.YtmejkfclabmijaaGreatDoorPathTextsLxE
import Derived.Test.YtmejkfclabmijaaGreatDoorPathTextsLxZB
import Derived.Test.YtmejkfclabmijaaGreatDoorPathTextsLxL
set_option linter.unusedSimpArgs false
set_option linter.unusedVariables false
set_option linter.unusedSectionVars false
set_option linter.unnecessarySimpa false
set_option maxRecDepth 100000
set_option maxHeartbeats 2000000
namespace Go.LX
open Go Go.RowKit Go.Proofs
attribute [local irreducible] B2 SWP Hb
def K8 (x:List UInt8):List (List UInt8)→Nat
 | []=>0
 | s :: l=>if Op.bytesLess s x=true then K8 x l+1 else 0
theorem Jd3 (x:List UInt8):∀ l,K8 x l≤l.length
 | []=>Nat.le_refl _
 | s :: l=>by have:=Jd3 x l;simp only [K8,List.length_cons];split <;> omega
theorem Jl4 {x:List UInt8}:∀ {l:List (List UInt8)} {k:Nat} {s:List UInt8},k<K8 x l→l[k]? = some s→Op.bytesLess s x=true
 | [],_,_,h,_=>by simp [K8] at h
 | t :: l,k,s,h,hk=>by
  simp only [K8] at h
  split at h
  ·cases k with
   | zero=>simp at hk;subst hk;assumption
   | succ k=>exact Jl4 (l:=l) (k:=k) (by omega) (by simpa using hk)
  ·omega
theorem Jjo {x:List UInt8}:∀ {l:List (List UInt8)} {s:List UInt8},l[K8 x l]? = some s→Op.bytesLess s x=false
 | [],_,h=>by simp at h
 | t :: l,s,h=>by
  simp only [K8] at h
  split at h
  ·exact Jjo (l:=l) (by simpa using h)
  ·rename_i h1
   simp only [List.getElem?_cons_zero,Option.some.injEq] at h
   subst h
   exact Bool.not_eq_true _ ▸ h1
def Mono (x:List UInt8) (l:List (List UInt8)):Prop:=∀ (i j:Nat) (s t:List UInt8),i≤j→l[i]? = some s→l[j]? = some t→Op.bytesLess t x=true→Op.bytesLess s x=true
theorem Jqz {x:List UInt8} {l:List (List UInt8)} (hmo:Mono x l) {k:Nat} {s:List UInt8} (hk:l[k]? = some s):(Op.bytesLess s x=true ↔ k<K8 x l):=by
 constructor
 ·intro h
  by_cases hlt:k<K8 x l
  ·exact hlt
  ·have hkl:=(List.getElem?_eq_some_iff.1 hk).1
   obtain ⟨t,ht⟩:∃ t,l[K8 x l]? = some t:=⟨_,List.getElem?_eq_getElem (show K8 x l<l.length from Nat.lt_of_le_of_lt (Nat.le_of_not_lt hlt) hkl)⟩
   have:=hmo (K8 x l) k t s (by omega) ht hk h
   rw [Jjo ht] at this;cases this
 ·exact fun h=>Jl4 h hk
def strL (l:List (List UInt8)):List (List PV):=l.map fun s=>[.str s]
def X6 (x:List UInt8) (l:List (List UInt8)):Bool:=match l[K8 x l]? with
 | some s=>s == x
 | none=>false
theorem half {i j:Nat} (h:i+j≤2000000):IntKind.i64.wrap ((IntKind.u64.wrap (IntKind.i64.wrap ((i:Int)+(j:Int)))).fdiv (2 ^ min 1 IntKind.u64.bits))=(((i+j) / 2:Nat):Int):=by
 have e:(((i+j:Nat):Int)).fdiv (2 ^ min 1 IntKind.u64.bits)=(((i+j) / 2:Nat):Int):=by
  rw [show min 1 IntKind.u64.bits=1 by decide,Int.fdiv_eq_ediv_of_nonneg _ (by decide)];simp
 rw [Aa (n:=(i:Int)+j) (by omega) (by omega),show ((i:Int)+(j:Int))=((i+j:Nat):Int) by omega,Jc6 (n:=((i+j:Nat):Int)) (by omega) (by omega)]
 rw [e,Aa (by omega) (by omega)]
theorem Jos (a:List UInt8):Det cx 235 [.p (.str a)] [] (.p (.bool false)) []:=by
 (refine B2.of_code (X:=cx) false [] (by simp) Tryz.func235 (by kernel_rfl) rfl (by simp only [List.length_cons,List.length_nil,Tryz.ntmps235];decide) (by simp) ?_;refine Ax hm _ _ _ ?_;simp only [Tryz.ntmps235,Tryz.results235,Ah,Bm,Cn,Ab,Bd,A1,Bc,Bf,A0,Cw,A9,Aj,B8,Ep,Ar,Qv,Ag,Ae,A3,Bs,Cs,Cr,A6,A7,B9,Av,Ap,Al,B7,B5,Af,Am,Ao,Co,Ay,A2,Ad,Ac,argW,List.map_cons,List.map_nil,Nat.reduceLT,Nat.reduceEqDiff,Cc,↓reduceIte,reduceCtorEq,Bool.not_true,Bool.or_false,beq_self_eq_true,and_self])
theorem Yd (a:List UInt8):Det cx 192 [.p (.str a)] [] (.p (.bool false)) []:=by
 (refine B2.of_code (X:=cx) false [] (by simp) Tryz.func192 (by kernel_rfl) rfl (by simp only [List.length_cons,List.length_nil,Tryz.ntmps192];decide) (by simp) ?_;refine Ax hm _ _ _ ?_;simp only [Tryz.ntmps192,Tryz.results192,Ah,Bm,Cn,Ab,Bd,A1,Bc,Bf,A0,Cw,A9,Aj,B8,Ep,Ar,Qv,Ag,Ae,A3,Bs,Cs,Cr,A6,A7,B9,Av,Ap,Al,B7,B5,Af,Am,Ao,Co,Ay,A2,Ad,Ac,argW,List.map_cons,List.map_nil,Nat.reduceLT,Nat.reduceEqDiff,Cc,↓reduceIte,reduceCtorEq,Bool.not_true,Bool.or_false,beq_self_eq_true,and_self])
theorem Jtn (a b:List UInt8):Det cx 191 [.p (.str a),.p (.str b)] [] (.p (.bool (Op.bytesLess a b))) []:=by
 (refine B2.of_code (X:=cx) false [] (by simp) Tryz.func191 (by kernel_rfl) rfl (by simp only [List.length_cons,List.length_nil,Tryz.ntmps191];decide) (by simp) ?_;refine Ax hm _ _ _ ?_;simp only [Tryz.ntmps191,Tryz.results191,Ah,Bm,Ab,Bd,A1,Bc,Bf,A0,Ch,Cw,A9,Aj,Cg,Ag,Ae,A3,Cf,Bv,Bi,Bz,Bx,A4,B6,Bh,Az,A5,Cl,Ad,Ac,argW,List.map_cons,List.map_nil,List.append_nil,List.flatMap_cons,List.flatMap_nil,Nat.reduceLT,Nat.reduceEqDiff,Cc,Bw,↓reduceIte,reduceCtorEq,Nat.zero_add])
 (repeat' (first | (refine iteI (fun h=>?_) (fun h=>?_))|(refine B1 (by first | omega | (simp (disch:=omega) only [Aa,Ak,Ai] at *;omega)) ?_;intro b hb)|(refine And.intro (by first | omega | (simp (disch:=omega) only [Aa,Ak,Ai] at *;omega)) ?_)|((first | (refine Ba hm (by rfl) (by kernel_rfl) ?_)|(refine Det.use (Jos a) ?_)|(refine Det.useQ (Jos a) ?_));simp only [Cn,Ab,Bd,A1,Da,Bc,D9,Ct,Bf,A0,Cw,A9,Aj,B8,D0,C2,Dq,Db,D1,Dn,Ep,Ar,Ji9,Ag,Ae,A3,Bp,B6,Bs,Cs,Cr,A6,A7,B9,Av,Ap,Al,B7,B5,Af,Am,Ao,Co,Ay,A2,Ad,Ac,List.getD_cons_zero,List.getD_cons_succ,Nat.reduceLT,Nat.reduceEqDiff,Cc,↓reduceIte,reduceCtorEq,Bool.false_eq_true,Bool.or_false,and_self])|(exact True.intro)|(exfalso;omega)))
theorem d_Binary (x:List UInt8) (l:List (List UInt8)) (hmo:Mono x l) (hn:l.length≤1000000):Det cx 125 [.own 1000 0 l.length,.p (.str x)] [(1000,.row 9 1 (strL l))] (.tup [.int .i64 (K8 x l),.bool (X6 x l)]) [(1000,.row 9 1 (strL l))]:=by
 have hpl:=Jd3 x l
 (refine B2.of_code (X:=cx) false [] (by simp) Tryz.func125 (by kernel_rfl) rfl (by simp only [List.length_cons,List.length_nil,Tryz.ntmps125];decide) (by simp) ?_;refine Ax hm _ _ _ ?_;simp only [Tryz.ntmps125,Tryz.results125,Ah,Bm,Ce,He,Ab,Bd,A1,Bc,Bf,A0,Cw,Ca,A9,Aj,Dw,Ds,F3,Ad,Ac,argW,List.map_cons,List.map_nil,Nat.reduceLT,Nat.reduceEqDiff,Cc,↓reduceIte,reduceCtorEq,Nat.zero_add,M4])
 (repeat' (first | (refine iteI (fun h=>?_) (fun h=>?_))|(refine B1 (by first | omega | (simp (disch:=omega) only [Aa,Ak,Ai] at *;omega)) ?_;intro b hb)|(refine And.intro (by first | omega | (simp (disch:=omega) only [Aa,Ak,Ai] at *;omega)) ?_)|((first | (refine Ba hm (by rfl) (by kernel_rfl) ?_));simp only [Dh])|(exact True.intro)|(exfalso;omega)))
 refine SWP.loop (fun p:Nat×Nat=>⟨Fp 54 [(0,.own 1000 0 l.length),(1,.p (.str x)),(5,.p (.bool false)),(6,.p (.int .i64 l.length)),(7,.p (.int .i64 p.1)),(8,.p (.int .i64 p.2))],[(1000,.row 9 1 (strL l))]⟩) (fun p=>p.1≤K8 x l∧K8 x l≤p.2∧p.2≤l.length) (fun p=>p.2 - p.1) (0,l.length) (St.le_slots (by simp only [Cd,Ck,Ac,Be,Aq,Nat.reduceEqDiff,reduceIte,Nat.reduceLT,Nat.reduceLeDiff];simp (disch:=omega) [Aq,A8,Cm,Aa] <;> (repeat' apply And.intro) <;> omega) (by simp (disch:=omega) [Dc,Ee,C9,Bj,Aq,A8,Cm,Aa]) (by simp [De])) ⟨Nat.zero_le _,hpl,Nat.le_refl _⟩ ?_
 rintro ⟨i,j⟩ ⟨h1,h2,h3⟩
 simp only at h1 h2 h3
 by_cases hi:i<j
 ·have hh:=half (i:=i) (j:=j) (by omega)
  obtain ⟨s,hs⟩:∃ s,l[(i+j) / 2]? = some s:=⟨_,List.getElem?_eq_getElem (show (i+j) / 2<l.length by omega)⟩
  have hg:(strL l)[(i+j) / 2]? = some [.str s]:=by simp [strL,hs]
  have hiff:=Jqz hmo hs
  have c1:((i:Int)<(j:Int))=True:=eq_true (by omega)
  have c2:=c1
  skip
  (refine Ax hm _ _ _ ?_;simp only [Cb,Ah,Bm,Br,Ce,Ab,Bd,A1,Bc,Bf,A0,Ch,Ca,A9,Aj,B8,Kb,Ed,Cv,Cg,Bl,Bq,Au,Bt,Ar,Jgw,E8,Dm,L4,Hz,Kl,Hn,Cj,Lj,Lg,G8,Q3,C5,Dv,N0,Ag,Ae,A3,Cf,Bv,Bi,Bz,Bx,A4,B6,Bh,Az,A5,Aw,Cl,Ad,Ac,List.map_cons,List.map_nil,List.append_nil,List.flatMap_cons,List.flatMap_nil,List.getElem?_cons_zero,decide_eq_true_eq,Nat.reduceLT,Nat.reduceEqDiff,Int.reduceToNat,Int.reduceLE,true_and,Cc,Bw,↓reduceIte,reduceCtorEq,Int.toNat_natCast,Int.natCast_nonneg,Nat.zero_add,Bool.true_and,Bool.or_false,Bool.or_true,Uq,L5,Kg,Ln,Jhr,hh,hg,c1])
  (repeat' (first | (refine iteI (fun h=>?_) (fun h=>?_))|(refine B1 (by first | omega | (simp (disch:=omega) only [Aa,Ak,Ai] at *;omega)) ?_;intro b hb)|(refine And.intro (by first | omega | (simp (disch:=omega) only [Aa,Ak,Ai] at *;omega)) ?_)|((first | (refine Ba hm (by rfl) (by kernel_rfl) ?_)|(refine Det.use (Jtn s x) ?_)|(refine Det.useQ (Jtn s x) ?_));simp only [Ah,Br,Ab,Bk,Bd,A1,Bc,Ct,Bf,A0,Ca,A9,Aj,B8,Bq,Au,Bt,Ar,E8,Bp,B6,Ad,Ac,Dy,List.map_cons,List.map_nil,Nat.reduceLT,Nat.reduceEqDiff,Cc,↓reduceIte,Bool.or_true])|(exact True.intro)|(exfalso;omega)))
  ·have hlt:=hiff.1 (by assumption)
   exact ⟨((i+j) / 2+1,j),⟨by simp only;omega,by simp only;omega,by simp only;omega⟩,by simp only;omega,(St.le_slots (by simp only [Cd,Ck,Ac,Be,Aq,Nat.reduceEqDiff,reduceIte,Nat.reduceLT,Nat.reduceLeDiff];simp (disch:=omega) [Aq,A8,Cm,Aa] <;> (repeat' apply And.intro) <;> omega) (by simp (disch:=omega) [Dc,Ee,C9,Bj,Aq,A8,Cm,Aa]) (by simp [De]))⟩
  ·have hlt:¬ (i+j) / 2<K8 x l:=fun h=>by have:=hiff.2 h;simp_all
   exact ⟨(i,(i+j) / 2),⟨by simp only;omega,by simp only;omega,by simp only;omega⟩,by simp only;omega,(St.le_slots (by simp only [Cd,Ck,Ac,Be,Aq,Nat.reduceEqDiff,reduceIte,Nat.reduceLT,Nat.reduceLeDiff];simp (disch:=omega) [Aq,A8,Cm,Aa] <;> (repeat' apply And.intro) <;> omega) (by simp (disch:=omega) [Dc,Ee,C9,Bj,Aq,A8,Cm,Aa]) (by simp [De]))⟩
 ·have c1:((i:Int)<(j:Int))=False:=eq_false (by omega)
  have hij:i=K8 x l:=by omega
  subst hij
  have hh:=c1
  by_cases hl:K8 x l<l.length
  ·have c2:((K8 x l:Int)<(l.length:Int))=True:=eq_true (by omega)
   obtain ⟨s,hs⟩:∃ s,l[K8 x l]? = some s:=⟨_,List.getElem?_eq_getElem hl⟩
   have hg:(strL l)[K8 x l]? = some [.str s]:=by simp [strL,hs]
   have hf:X6 x l=(s == x):=by unfold X6;rw [hs]
   (refine Ax hm _ _ _ ?_;simp only [Ah,Bm,Br,Eh,Cn,Ab,Ci,B0,Bd,A1,Da,Bc,D9,Bf,A0,Ch,Cw,A9,Aj,B8,D0,Ed,Cv,Cg,Bl,Bq,C2,Dq,Db,D1,J2,Dn,Au,Ep,Ar,Dm,Nh,Cj,Lj,Lg,G8,Q3,C5,Dv,N0,Ag,Ae,A3,Cf,Bv,Bi,Bz,Bx,A4,B6,Bh,Az,A5,Bs,Cs,Cr,A6,A7,B9,Av,Ap,Em,Al,B7,B5,Af,Am,Ao,Cy,Ay,Aw,Cl,A2,Ad,Ac,Dy,List.map_cons,List.map_nil,List.getD_cons_zero,List.getD_cons_succ,List.append_nil,List.flatMap_cons,List.flatMap_nil,List.getElem?_cons_zero,decide_eq_true_eq,beq_iff_eq,Nat.reduceLT,Nat.reduceEqDiff,true_and,and_true,Cc,Bw,↓reduceIte,reduceCtorEq,Int.toNat_natCast,Int.natCast_nonneg,Nat.zero_add,PV.bool.injEq,L.tup.injEq,List.cons.injEq,Bool.false_eq_true,Bool.true_and,Bool.and_true,Bool.or_false,L5,Kg,Ln,hh,hg,c2])
   (repeat' (first | (refine iteI (fun h=>?_) (fun h=>?_))|(refine B1 (by first | omega | (simp (disch:=omega) only [Aa,Ak,Ai] at *;omega)) ?_;intro b hb)|(refine And.intro (by first | omega | (simp (disch:=omega) only [Aa,Ak,Ai] at *;omega)) ?_)|((first | (refine Ba hm (by rfl) (by kernel_rfl) ?_)|(refine Det.use (Yd s) ?_)|(refine Det.useQ (Yd s) ?_)|(refine Det.use (Yd x) ?_)|(refine Det.useQ (Yd x) ?_));simp only [Cn,Ab,Bd,A1,Da,Bc,D9,Ct,Bf,A0,Cw,A9,Aj,D0,C2,Dq,Db,D1,Dn,Ag,Ae,A3,Bp,B6,Bs,Cs,Cr,A6,A7,B9,Av,Ap,Em,Al,B7,B5,Af,Am,Ao,Cy,Ay,Aw,A2,Ad,Ac,List.getD_cons_zero,List.getD_cons_succ,Nat.reduceLT,Nat.reduceEqDiff,true_and,and_true,↓reduceIte,PV.bool.injEq,L.tup.injEq,List.cons.injEq,Bool.false_eq_true,Bool.true_and,Bool.and_true])|(exact True.intro)|(exfalso;omega)))
   all_goals simp [hf, *]
  ·have hg:=c1
   have c2:((K8 x l:Int)<(l.length:Int))=False:=eq_false (by omega)
   have hf:X6 x l=false:=by unfold X6;rw [List.getElem?_eq_none (by omega)]
   (refine Ax hm _ _ _ ?_;simp only [Ah,Bm,Br,Eh,Cn,Ab,Ci,B0,Bd,A1,Da,Bc,D9,Bf,A0,Cw,A9,Aj,B8,D0,Bq,C2,Dq,Db,J2,Dn,Au,Ar,Dm,Ag,Ae,A3,Bs,Cs,Cr,A6,A7,B9,Av,Ap,Em,Al,B7,B5,Af,Am,Ao,Cy,Ay,Aw,A2,Ad,Ac,Dy,List.map_cons,List.map_nil,List.getD_cons_zero,List.getD_cons_succ,decide_eq_true_eq,Nat.reduceLT,Nat.reduceEqDiff,true_and,and_true,Cc,↓reduceIte,reduceCtorEq,PV.bool.injEq,L.tup.injEq,List.cons.injEq,Bool.false_eq_true,Bool.true_and,Bool.and_true,Bool.or_false,hh,c2])
   (repeat' (first | (refine iteI (fun h=>?_) (fun h=>?_))|(refine B1 (by first | omega | (simp (disch:=omega) only [Aa,Ak,Ai] at *;omega)) ?_;intro b hb)|(refine And.intro (by first | omega | (simp (disch:=omega) only [Aa,Ak,Ai] at *;omega)) ?_)|((first | (refine Ba hm (by rfl) (by kernel_rfl) ?_));simp only [Dh])|(exact True.intro)|(exfalso;omega)))
   all_goals exact hf.symm
end Go.LX
set_option maxRecDepth 100000
set_option maxHeartbeats 2000000
namespace Go.LX
open Go Go.RowKit Go.Proofs
attribute [local irreducible] B2 SWP Hb
theorem Jnz {rs:Regs} {d1 o1 n1 d2 o2 n2:Nat} {T1 T2:TypeId} {es1:List (List PV)} {f2:Bool} {es2:List (List L)} (h1:Bj d1 rs=some (.row T1 1 es1)) (h2:Bj d2 rs=some (.lrow T2 1 f2 es2)) (hne:d1≠d2) (hp1:0<es1.length) (hp2:0<es2.length) :
  Dp cx 193 [.own d1 o1 n1,.own d2 o2 n2] rs (.p (.bool false)) :=
 Jj4 (X:=cx) Tryz.func193 (by kernel_rfl) (by kernel_rfl) (by kernel_rfl) (tS:=67) (tR:=4) (e:=9) (by kernel_rfl) Ln h1 h2 hne hp1 hp2
theorem Jjn (es:List (List PV)) (n i:Nat) (x:List UInt8) (h:es.length=n) (hi:i<n) (hn:n≤1000000) (h1:∀ q∈es,q.length=1):Det cx 127 [.own 1000 0 n,.p (.int .i64 i),.own 1001 0 1] [(1001,.row 9 1 [[.str x]]),(1000,.row 9 1 es)] (.own 900 0 (n+1)) [(900,.row 9 1 (es.take i ++ [[.str x]] ++ es.drop i)),(1001,.row 9 1 [[.str x]])]:=by
 refine B2.trunc (n+1) ?_
 refine B2.sub (Post:=fun m q=>m=.own 900 0 (n+1)∧((∃ r,q=[(900,.row 9 1 (es.take i ++ [[.str x]] ++ es.drop i)),(1001,.row 9 1 [[.str x]]),(1000,r)])∨∃ b ls,q=[(900,.lrow 9 1 b ls),(1001,.row 9 1 [[.str x]])]∧Kr (ls.take (n+1))=some (es.take i ++ [[.str x]] ++ es.drop i))) ?_ (by
  rintro m q ⟨rfl,⟨r,rfl⟩ | ⟨b,ls,rfl,hp⟩⟩
  ·exact ⟨_,((List.nil_sublist _).cons_cons _).cons_cons _,rfl,.inl rfl⟩
  ·exact ⟨_,List.Sublist.refl _,rfl,.inr ⟨b,ls,rfl,hp⟩⟩)
 refine B2.of_code (X:=cx) true [(40,900)] (by simp) Tryz.func127 (by kernel_rfl) rfl (by simp only [List.length_cons,List.length_nil,Tryz.ntmps127];decide) (by simp) ?_
 refine SWP.spare (d:=1000) (T:=9) (es:=es) rfl (by omega) fun k=>?_
 generalize hls:es.map (List.map L.p) ++ List.replicate k [L.junk]=ls
 have hll:ls.length=n+k:=by rw [← hls];simp [h]
 have c1:((i:Int)=(n:Int))=False:=eq_false (by omega)
 have hp0:(0<ls.length)=True:=eq_true (by omega)
 have hr1:Kr (ls.take i)=some (es.take i):=by rw [← hls];exact Q4 (by omega)
 have w1:IntKind.i64.wrap ((n:Int)+((1:Nat):Int))=((n+1:Nat):Int):=by rw [Aa (by omega) (by omega)];omega
 have w3:IntKind.i64.wrap ((i:Int)+((1:Nat):Int))=((i+1:Nat):Int):=by rw [Aa (by omega) (by omega)];omega
 have c4:(((1:Nat):Int)=0)=False:=by simp
 have c7:((1:Nat)=0)=False:=by simp
 have c6:(n - i=0)=False:=eq_false (by omega)
 have e2:List.take (n+1 - i) [[PV.str x]]=[[PV.str x]]:=List.take_of_length_le (by simp;omega)
 have e3:n+1 - (i+1)=n - i:=by omega
 have e5:(es.drop i).length=n - i:=by simp [h]
 have hr2:Kr ((ls.drop i).take (n - i))=some (es.drop i):=by rw [← hls,Yp (by omega),List.take_of_length_le (by simp;omega)]
 by_cases hk:k=0
 ·subst hk
  have c2:((ls.length:Int)<((n+1:Nat):Int))=True:=eq_true (by omega)
  have c3:((n:Int)<((n+1:Nat):Int))=True:=eq_true (by omega)
  have w2:IntKind.i64.wrap (((n+1:Nat):Int) - (i:Int))=((n+1 - i:Nat):Int):=by rw [Aa (by omega) (by omega)];omega
  simp only [Nat.add_zero] at hll
  have e1:i+(n+1 - i)=n+1:=by omega
  have hT:(es.take i ++ List.replicate (n+1 - i) [PV.str []]).take i=es.take i:=by rw [List.take_append_of_le_length (by simp;omega),List.take_take,Nat.min_self]
  have hD:(es.take i ++ List.replicate (n+1 - i) [PV.str []]).drop (i+1)=List.replicate (n - i) [PV.str []]:=by
   rw [List.drop_append,List.drop_eq_nil_of_le (by simp;omega),List.nil_append,List.drop_replicate];congr 1;simp;omega
  have hF:List.map (fun e=>List.map (L.forget 40) e) ls=ls:=by rw [← hls];exact V8 (fun _=>rfl) rfl _ _
  have c5:(i+(n - i)≤n)=True:=eq_true (by omega)
  have e4:min (n - i) (n - i)=n - i:=Nat.min_self _
  have hB:(es.take i ++ [[PV.str x]] ++ List.replicate (n - i) [PV.str []]).take (i+1) ++ es.drop i ++ (es.take i ++ [[PV.str x]] ++ List.replicate (n - i) [PV.str []]).drop (i+1+(n - i))=es.take i ++ [[PV.str x]] ++ es.drop i:=by
   have l1:(es.take i ++ [[PV.str x]]).length=i+1:=by simp;omega
   rw [List.take_append_of_le_length (by omega),List.take_of_length_le (l:=es.take i ++ [[PV.str x]]) (by omega),List.drop_eq_nil_of_le (show (es.take i ++ [[PV.str x]] ++ List.replicate (n - i) [PV.str []]).length≤i+1+(n - i) by simp;omega),List.append_nil]
  have hC:=hB
  skip
  simp only [Tryz.ntmps127,Tryz.results127,Cp,argW,List.map_cons,List.map_nil,Nat.reduceEqDiff,Nat.reduceAdd,Cc,↓reduceIte,Nat.zero_add]
  (refine Ax hm _ _ _ ?_;simp only [Cb,Ah,Bm,Br,Ab,Bd,A1,Bc,Ct,Bf,A0,Ca,E4,A9,Aj,B8,E7,Dw,Xo,F8,Jc0,Bo,Ja,Bq,Au,Bt,Ar,E8,M5,G0,Je,Ds,F3,Ev,D5,E2,V0,Pb,Mz,Oj,Td,O7,Mi,Rx,Cu,Hc,Jb2,F5,Wa,Jnb,Jn5,Jta,Jn6,Xp,Jel,Jc2,Jea,Jku,Ov,Y6,S7,R3,Jd6,F2,Jk,Aw,B4,C4,Cp,Fy,Jaq,Ez,Ga,Ad,Ac,Bn,Bg,Bb,List.map_cons,List.map_nil,List.length_cons,List.length_nil,List.take_succ_cons,List.take_nil,List.drop_zero,decide_eq_true_eq,beq_iff_eq,Nat.reduceLT,Nat.reduceLeDiff,Nat.reduceEqDiff,true_and,Cc,↓reduceIte,reduceCtorEq,Int.toNat_natCast,Int.natCast_nonneg,Nat.zero_add,Bool.true_and,Bool.or_false,Bool.or_true,Uq,Kg,W6,Jfr,M4,Ln,Jhg,Jiy,Jh1,Jay,hll,c1,c3,c4,c7,w1,w2,hr1,Nat.sub_zero,List.length_replicate,e1,e2,hT,hD,hF])
  (repeat' (first | (refine And.intro (by first | omega | (simp;done)|(simp;omega)|(intro q hq;exact h1 q (List.mem_of_mem_drop hq))|(intro q hq;exact h1 q hq)|(intro q hq;simp at hq;subst hq;rfl)) ?_)))
  (refine Rd 8 hm (by kernel_rfl) (by kernel_rfl) ?_;simp only [Ah,Bm,Cn,Ab,B3,Bd,A1,Bc,Bf,A9,Aj,Xo,Jn,M7,Pn,Bo,Je0,Jei,Ry,Au,Ar,E8,Ev,D5,E2,Pb,Oj,O7,Mi,Bu,Fn,Di,P0,B6,D2,Ey,Xp,Jel,Jc2,Jea,Jku,Ov,Tg,R3,Jes,F2,Vj,Km,Av,Ap,Em,Ls,H5,Af,C3,Gj,Fl,D8,Dr,Du,Aw,Cp,Tp,Jdr,Tv,Tm,W8,A2,Ad,Ac,Cq,Bg,Bb,List.map_cons,List.map_nil,Nat.reduceLT,Nat.reduceEqDiff,Nat.reduceAdd,true_and,and_true,Cc,↓reduceIte,reduceCtorEq,Int.toNat_natCast,Int.natCast_nonneg,Nat.zero_add,List.cons.injEq,Bool.true_and,Bool.and_true,Bool.or_false,Kg,M4,Ln,hll,c5,c6,w3,hr2,e3,e4,e5,hB])
  (repeat' (first | (refine And.intro (by first | omega | (simp;done)|(simp;omega)|(intro q hq;exact h1 q (List.mem_of_mem_drop hq))|(intro q hq;exact h1 q hq)|(intro q hq;simp at hq;subst hq;rfl)) ?_)))
  exact .inl ⟨_,rfl⟩
 ·have c2:((ls.length:Int)<((n+1:Nat):Int))=False:=eq_false (by omega)
  have c3:(((n+k:Nat):Int)<((n+1:Nat):Int))=False:=eq_false (by omega)
  have w2:=c4
  have e1:=c4
  have hT:=c4
  have hD:=c4
  have hF:List.map (fun e=>List.map (L.map (Pt 1000 40)) e) ls=ls:=by rw [← hls];exact V8 (fun _=>rfl) rfl _ _
  have c5:(i+(n+1 - i)≤n+k)=True:=eq_true (by omega)
  have e4:min (n+1 - i) (n - i)=n - i:=by omega
  have hB:ls.take (i+1) ++ (es.drop i).map (List.map L.p) ++ ls.drop (i+1+(n - i))=(es.take (i+1) ++ es.drop i).map (List.map L.p) ++ List.replicate (k - 1) [L.junk]:=by
   have:=Jlj (es:=es) (i:=i) (k:=k) (by omega) hk
   rw [hls,h] at this;exact this
  have hC:((es.take (i+1) ++ es.drop i).map (List.map L.p) ++ List.replicate (k - 1) [L.junk]).take i ++ [[L.p (.str x)]] ++ ((es.take (i+1) ++ es.drop i).map (List.map L.p) ++ List.replicate (k - 1) [L.junk]).drop (i+1)=(es.take i ++ [[PV.str x]] ++ es.drop i).map (List.map L.p) ++ List.replicate (k - 1) [L.junk]:=Jke (q:=[PV.str x]) (by omega)
  simp only [Tryz.ntmps127,Tryz.results127,Cp,argW,List.map_cons,List.map_nil,Nat.reduceEqDiff,Nat.reduceAdd,Cc,↓reduceIte,Nat.zero_add]
  (refine Ax hm _ _ _ ?_;simp only [Cb,Ah,Bm,Br,Ab,Bd,A1,Bc,Bf,A0,Ch,Ca,E4,A9,Aj,B8,E7,Dw,Cg,Jc0,Bq,Au,Bt,Ar,E8,G0,Je,Ds,F3,Ev,D5,E2,V0,Pb,Mz,Oj,Td,Mi,Rx,Cf,Bv,Jco,Aw,Ad,Ac,List.map_cons,List.map_nil,decide_eq_true_eq,beq_iff_eq,Nat.reduceLT,Nat.reduceEqDiff,true_and,Cc,Bw,↓reduceIte,reduceCtorEq,Int.toNat_natCast,Int.natCast_nonneg,Nat.zero_add,Bool.true_and,Bool.or_false,Bool.or_true,Kg,M4,Jhg,Jiy,Jh1,Jay,hll,c1,c3,c4,w1,w3,Nat.sub_zero,e3])
  (repeat' (first | (refine And.intro (by first | omega | (simp;done)|(simp;omega)|(intro q hq;exact h1 q (List.mem_of_mem_drop hq))|(intro q hq;exact h1 q hq)|(intro q hq;simp at hq;subst hq;rfl)) ?_)))
  refine Dp.use (l:=.p (.bool false)) ?_ ?_
  ·exact Jnz rfl rfl (by decide) (by simp) (by omega)
  simp only [Bm,Br,Ab,Bd,A1,Bc,Ct,Bf,N7,Ja,Bq,J7,Ad,Ac,Nat.reduceLT,↓reduceIte,Bool.not_false]
  refine SWP.of_le (Jh [(1000,40)] _ (by simp)) ?_
  simp only [Bu,Fn,Di,P0,B6,D2,Ey,Af,C3,Gj,Fl,D8,Dr,Du,Cq,Bg,Bb,Nat.reduceEqDiff,↓reduceIte,hF]
  (refine Rd 8 hm (by kernel_rfl) (by kernel_rfl) ?_;simp only [Ah,Bm,Cn,Ab,B3,Bd,A1,Bc,Bf,A9,Aj,E7,Xo,Jn,M7,Pn,Bo,Je0,Jei,Ry,Au,Ar,E8,Ev,D5,E2,Pb,Mz,Oj,Mi,Bu,Fn,Di,P0,B6,D2,Ey,Xp,Jel,Jc2,Jea,Jnr,Ov,Tg,Y6,S7,R3,Jd6,Jes,F2,Vj,Jk,Km,Av,Ap,Em,Al,Ls,H5,Af,C3,Gj,Fl,D8,Dr,Du,Ay,Aw,Cp,Tp,Jdr,Tv,Tm,W8,A2,Ad,Ac,Cq,Bg,Bb,List.map_cons,List.map_nil,List.length_cons,List.length_nil,List.take_succ_cons,List.take_nil,List.drop_zero,Nat.reduceLT,Nat.reduceLeDiff,Nat.reduceEqDiff,Nat.reduceAdd,true_and,and_true,Cc,↓reduceIte,reduceCtorEq,Int.toNat_natCast,Int.natCast_nonneg,Nat.zero_add,List.cons.injEq,Bool.true_and,Bool.and_true,Bool.or_false,Kg,M4,Ln,hll,c5,c6,c7,w3,hr2,e2,e3,e4,e5,hB,hC])
  (repeat' (first | (refine And.intro (by first | omega | (simp;done)|(simp;omega)|(intro q hq;exact h1 q (List.mem_of_mem_drop hq))|(intro q hq;exact h1 q hq)|(intro q hq;simp at hq;subst hq;rfl)) ?_)))
  rw [V8 (fun _=>rfl) rfl]
  exact .inr ⟨_,_,rfl,by rw [Q4 (by simp;omega),List.take_of_length_le (by simp;omega)]⟩
theorem xr_vals {rs:Regs} {d1 o1 n1 d2 o2 n2:Nat} {T1 T2:TypeId} {es1:List (List PV)} {f2:Bool} {es2:List (List L)} (h1:Bj d1 rs=some (.row T1 1 es1)) (h2:Bj d2 rs=some (.lrow T2 1 f2 es2)) (hne:d1≠d2) (hp1:0<es1.length) (hp2:0<es2.length) :
  Dp cx 195 [.own d1 o1 n1,.own d2 o2 n2] rs (.p (.bool false)) :=
 Jj4 (X:=cx) Tryz.func195 (by kernel_rfl) (by kernel_rfl) (by kernel_rfl) (tS:=44) (tR:=4) (e:=34) (by kernel_rfl) Lx h1 h2 hne hp1 hp2
theorem Jm9 (es:List (List PV)) (n i:Nat) (x:PV) (hx:x.scalar=true) (h:es.length=n) (hi:i<n) (hn:n≤1000000) (h1:∀ q∈es,q.length=1):Det cx 128 [.own 1000 0 n,.p (.int .i64 i),.own 1001 0 1] [(1001,.row 34 1 [[x]]),(1000,.row 34 1 es)] (.own 900 0 (n+1)) [(900,.row 34 1 (es.take i ++ [[x]] ++ es.drop i)),(1001,.row 34 1 [[x]])]:=by
 refine B2.trunc (n+1) ?_
 refine B2.sub (Post:=fun m q=>m=.own 900 0 (n+1)∧((∃ r,q=[(900,.row 34 1 (es.take i ++ [[x]] ++ es.drop i)),(1001,.row 34 1 [[x]]),(1000,r)])∨∃ b ls,q=[(900,.lrow 34 1 b ls),(1001,.row 34 1 [[x]])]∧Kr (ls.take (n+1))=some (es.take i ++ [[x]] ++ es.drop i))) ?_ (by
  rintro m q ⟨rfl,⟨r,rfl⟩ | ⟨b,ls,rfl,hp⟩⟩
  ·exact ⟨_,((List.nil_sublist _).cons_cons _).cons_cons _,rfl,.inl rfl⟩
  ·exact ⟨_,List.Sublist.refl _,rfl,.inr ⟨b,ls,rfl,hp⟩⟩)
 refine B2.of_code (X:=cx) true [(40,900)] (by simp) Tryz.func128 (by kernel_rfl) rfl (by simp only [List.length_cons,List.length_nil,Tryz.ntmps128];decide) (by simp) ?_
 refine SWP.spare (d:=1000) (T:=34) (es:=es) rfl (by omega) fun k=>?_
 generalize hls:es.map (List.map L.p) ++ List.replicate k [L.junk]=ls
 have hll:ls.length=n+k:=by rw [← hls];simp [h]
 have c1:((i:Int)=(n:Int))=False:=eq_false (by omega)
 have hp0:(0<ls.length)=True:=eq_true (by omega)
 have hr1:Kr (ls.take i)=some (es.take i):=by rw [← hls];exact Q4 (by omega)
 have w1:IntKind.i64.wrap ((n:Int)+((1:Nat):Int))=((n+1:Nat):Int):=by rw [Aa (by omega) (by omega)];omega
 have w3:IntKind.i64.wrap ((i:Int)+((1:Nat):Int))=((i+1:Nat):Int):=by rw [Aa (by omega) (by omega)];omega
 have c4:(((1:Nat):Int)=0)=False:=by simp
 have c7:((1:Nat)=0)=False:=by simp
 have c6:(n - i=0)=False:=eq_false (by omega)
 have e2:List.take (n+1 - i) [[x]]=[[x]]:=List.take_of_length_le (by simp;omega)
 have e3:n+1 - (i+1)=n - i:=by omega
 have e5:(es.drop i).length=n - i:=by simp [h]
 have hr2:Kr ((ls.drop i).take (n - i))=some (es.drop i):=by rw [← hls,Yp (by omega),List.take_of_length_le (by simp;omega)]
 by_cases hk:k=0
 ·subst hk
  have c2:((ls.length:Int)<((n+1:Nat):Int))=True:=eq_true (by omega)
  have c3:((n:Int)<((n+1:Nat):Int))=True:=eq_true (by omega)
  have w2:IntKind.i64.wrap (((n+1:Nat):Int) - (i:Int))=((n+1 - i:Nat):Int):=by rw [Aa (by omega) (by omega)];omega
  simp only [Nat.add_zero] at hll
  have e1:i+(n+1 - i)=n+1:=by omega
  have hT:(es.take i ++ List.replicate (n+1 - i) [PV.snil]).take i=es.take i:=by rw [List.take_append_of_le_length (by simp;omega),List.take_take,Nat.min_self]
  have hD:(es.take i ++ List.replicate (n+1 - i) [PV.snil]).drop (i+1)=List.replicate (n - i) [PV.snil]:=by
   rw [List.drop_append,List.drop_eq_nil_of_le (by simp;omega),List.nil_append,List.drop_replicate];congr 1;simp;omega
  have hF:List.map (fun e=>List.map (L.forget 40) e) ls=ls:=by rw [← hls];exact V8 (fun _=>rfl) rfl _ _
  have c5:(i+(n - i)≤n)=True:=eq_true (by omega)
  have e4:min (n - i) (n - i)=n - i:=Nat.min_self _
  have hB:(es.take i ++ [[x]] ++ List.replicate (n - i) [PV.snil]).take (i+1) ++ es.drop i ++ (es.take i ++ [[x]] ++ List.replicate (n - i) [PV.snil]).drop (i+1+(n - i))=es.take i ++ [[x]] ++ es.drop i:=by
   have l1:(es.take i ++ [[x]]).length=i+1:=by simp;omega
   rw [List.take_append_of_le_length (by omega),List.take_of_length_le (l:=es.take i ++ [[x]]) (by omega),List.drop_eq_nil_of_le (show (es.take i ++ [[x]] ++ List.replicate (n - i) [PV.snil]).length≤i+1+(n - i) by simp;omega),List.append_nil]
  have hC:=hB
  skip
  simp only [Tryz.ntmps128,Tryz.results128,Cp,argW,List.map_cons,List.map_nil,Nat.reduceEqDiff,Nat.reduceAdd,Cc,↓reduceIte,Nat.zero_add]
  (refine Ax hm _ _ _ ?_;simp only [Cb,Ah,Bm,Br,Ab,Bd,A1,Bc,Ct,Bf,A0,Ca,E4,A9,Aj,B8,E7,Dw,Xo,F8,Jc0,Bo,Ja,Bq,Au,Bt,Ar,E8,M5,G0,Je,Ds,F3,Ev,D5,E2,V0,Pb,Mz,Oj,Td,O7,Mi,Rx,Cu,Hc,Jb2,F5,Wa,Jnb,Jn5,Jta,Jn6,Xp,Jel,Jc2,Jea,Jku,Ov,Y6,S7,R3,Jd6,F2,Jk,Aw,B4,C4,Cp,Fy,Jaq,Ez,Ga,Ad,Ac,Bn,Bg,Bb,List.map_cons,List.map_nil,List.length_cons,List.length_nil,List.take_succ_cons,List.take_nil,List.drop_zero,decide_eq_true_eq,beq_iff_eq,Nat.reduceLT,Nat.reduceLeDiff,Nat.reduceEqDiff,true_and,Cc,↓reduceIte,reduceCtorEq,Int.toNat_natCast,Int.natCast_nonneg,Nat.zero_add,Bool.true_and,Bool.or_false,Bool.or_true,Uq,Ng,Ph,Ul,Ps,Lx,Jhg,Jiy,Jh1,Jay,hll,c1,c3,c4,c7,w1,w2,hr1,Nat.sub_zero,List.length_replicate,e1,e2,hT,hD,hF])
  (repeat' (first | (refine And.intro (by first | omega | (simp;done)|(simp;omega)|(intro q hq;exact h1 q (List.mem_of_mem_drop hq))|(intro q hq;exact h1 q hq)|(intro q hq;simp at hq;subst hq;rfl)) ?_)))
  (refine Rd 8 hm (by kernel_rfl) (by kernel_rfl) ?_;simp only [Ah,Bm,Cn,Ab,B3,Bd,A1,Bc,Bf,A9,Aj,Xo,Jn,M7,Pn,Bo,Je0,Jei,Ry,Au,Ar,E8,Ev,D5,E2,Pb,Oj,O7,Mi,Bu,Fn,Di,P0,B6,D2,Ey,Xp,Jel,Jc2,Jea,Jku,Ov,Tg,R3,Jes,F2,Vj,Km,Av,Ap,Em,Ls,H5,Af,C3,Gj,Fl,D8,Dr,Du,Aw,Cp,Tp,Jdr,Tv,Tm,W8,A2,Ad,Ac,Cq,Bg,Bb,List.map_cons,List.map_nil,Nat.reduceLT,Nat.reduceEqDiff,Nat.reduceAdd,true_and,and_true,Cc,↓reduceIte,reduceCtorEq,Int.toNat_natCast,Int.natCast_nonneg,Nat.zero_add,List.cons.injEq,Bool.true_and,Bool.and_true,Bool.or_false,Ng,Ps,Lx,hll,c5,c6,w3,hr2,e3,e4,e5,hB])
  (repeat' (first | (refine And.intro (by first | omega | (simp;done)|(simp;omega)|(intro q hq;exact h1 q (List.mem_of_mem_drop hq))|(intro q hq;exact h1 q hq)|(intro q hq;simp at hq;subst hq;rfl)) ?_)))
  exact .inl ⟨_,rfl⟩
 ·have c2:((ls.length:Int)<((n+1:Nat):Int))=False:=eq_false (by omega)
  have c3:(((n+k:Nat):Int)<((n+1:Nat):Int))=False:=eq_false (by omega)
  have w2:=c4
  have e1:=c4
  have hT:=c4
  have hD:=c4
  have hF:List.map (fun e=>List.map (L.map (Pt 1000 40)) e) ls=ls:=by rw [← hls];exact V8 (fun _=>rfl) rfl _ _
  have c5:(i+(n+1 - i)≤n+k)=True:=eq_true (by omega)
  have e4:min (n+1 - i) (n - i)=n - i:=by omega
  have hB:ls.take (i+1) ++ (es.drop i).map (List.map L.p) ++ ls.drop (i+1+(n - i))=(es.take (i+1) ++ es.drop i).map (List.map L.p) ++ List.replicate (k - 1) [L.junk]:=by
   have:=Jlj (es:=es) (i:=i) (k:=k) (by omega) hk
   rw [hls,h] at this;exact this
  have hC:((es.take (i+1) ++ es.drop i).map (List.map L.p) ++ List.replicate (k - 1) [L.junk]).take i ++ [[L.p x]] ++ ((es.take (i+1) ++ es.drop i).map (List.map L.p) ++ List.replicate (k - 1) [L.junk]).drop (i+1)=(es.take i ++ [[x]] ++ es.drop i).map (List.map L.p) ++ List.replicate (k - 1) [L.junk]:=Jke (q:=[x]) (by omega)
  simp only [Tryz.ntmps128,Tryz.results128,Cp,argW,List.map_cons,List.map_nil,Nat.reduceEqDiff,Nat.reduceAdd,Cc,↓reduceIte,Nat.zero_add]
  (refine Ax hm _ _ _ ?_;simp only [Cb,Ah,Bm,Br,Ab,Bd,A1,Bc,Bf,A0,Ch,Ca,E4,A9,Aj,B8,E7,Dw,Cg,Jc0,Bq,Au,Bt,Ar,E8,G0,Je,Ds,F3,Ev,D5,E2,V0,Pb,Mz,Oj,Td,Mi,Rx,Cf,Bv,Jco,Aw,Ad,Ac,List.map_cons,List.map_nil,decide_eq_true_eq,beq_iff_eq,Nat.reduceLT,Nat.reduceEqDiff,true_and,Cc,Bw,↓reduceIte,reduceCtorEq,Int.toNat_natCast,Int.natCast_nonneg,Nat.zero_add,Bool.true_and,Bool.or_false,Bool.or_true,Ng,Ps,Jhg,Jiy,Jh1,Jay,hll,c1,c3,c4,w1,w3,Nat.sub_zero,e3])
  (repeat' (first | (refine And.intro (by first | omega | (simp;done)|(simp;omega)|(intro q hq;exact h1 q (List.mem_of_mem_drop hq))|(intro q hq;exact h1 q hq)|(intro q hq;simp at hq;subst hq;rfl)) ?_)))
  refine Dp.use (l:=.p (.bool false)) ?_ ?_
  ·exact xr_vals rfl rfl (by decide) (by simp) (by omega)
  simp only [Bm,Br,Ab,Bd,A1,Bc,Ct,Bf,N7,Ja,Bq,J7,Ad,Ac,Nat.reduceLT,↓reduceIte,Bool.not_false]
  refine SWP.of_le (Jh [(1000,40)] _ (by simp)) ?_
  simp only [Bu,Fn,Di,P0,B6,D2,Ey,Af,C3,Gj,Fl,D8,Dr,Du,Cq,Bg,Bb,Nat.reduceEqDiff,↓reduceIte,hF]
  (refine Rd 8 hm (by kernel_rfl) (by kernel_rfl) ?_;simp only [Ah,Bm,Cn,Ab,B3,Bd,A1,Bc,Bf,A9,Aj,E7,Xo,Jn,M7,Pn,Bo,Je0,Jei,Ry,Au,Ar,E8,Ev,D5,E2,Pb,Mz,Oj,Mi,Bu,Fn,Di,P0,B6,D2,Ey,Xp,Jel,Jc2,Jea,Jnr,Ov,Tg,Y6,S7,R3,Jd6,Jes,F2,Vj,Jk,Km,Av,Ap,Em,Al,Ls,H5,Af,C3,Gj,Fl,D8,Dr,Du,Ay,Aw,Cp,Tp,Jdr,Tv,Tm,W8,A2,Ad,Ac,Cq,Bg,Bb,List.map_cons,List.map_nil,List.length_cons,List.length_nil,List.take_succ_cons,List.take_nil,List.drop_zero,Nat.reduceLT,Nat.reduceLeDiff,Nat.reduceEqDiff,Nat.reduceAdd,true_and,and_true,Cc,↓reduceIte,reduceCtorEq,Int.toNat_natCast,Int.natCast_nonneg,Nat.zero_add,List.cons.injEq,Bool.true_and,Bool.and_true,Bool.or_false,Ng,Ps,Lx,hll,c5,c6,c7,w3,hr2,e2,e3,e4,e5,hB,hC])
  (repeat' (first | (refine And.intro (by first | omega | (simp;done)|(simp;omega)|(intro q hq;exact h1 q (List.mem_of_mem_drop hq))|(intro q hq;exact h1 q hq)|(intro q hq;simp at hq;subst hq;rfl)) ?_)))
  rw [V8 (fun _=>rfl) rfl]
  exact .inr ⟨_,_,rfl,by rw [Q4 (by simp;omega),List.take_of_length_le (by simp;omega)]⟩
end Go.LX
