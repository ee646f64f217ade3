/- Rows into which something is laid in the middle. -/
import Derived.Test.YtmejkfclabmijaaGreatDoorPathBackLxI
import Derived.Test.YtmejkfclabmijaaGreatDoorPathBackLxE
import Derived.Test.YtmejkfclabmijaaGreatDoorPathBackLxX
import Derived.Test.YtmejkfclabmijaaGreatDoorPathBackLxL
set_option linter.unusedSimpArgs false
set_option linter.unusedVariables false
set_option linter.unusedSectionVars false
set_option linter.unnecessarySimpa false
set_option maxRecDepth 100000
set_option maxHeartbeats 2000000
namespace Go.LX
open Go Go.RowKit Go.Proofs
attribute [local irreducible] Bz SWP Gm
def Ki (x:List UInt8):List (List UInt8)→Nat
 | []=>0
 | s :: l=>if Op.bytesLess s x=true then Ki x l+1 else 0
theorem Jcd (x:List UInt8):∀ l,Ki x l≤l.length
 | []=>Nat.le_refl _
 | s :: l=>by have:=Jcd x l;simp only [Ki,List.length_cons];split <;> omega
theorem Jii {x:List UInt8}:∀ {l:List (List UInt8)} {k:Nat} {s:List UInt8},k<Ki x l→l[k]? = some s→Op.bytesLess s x=true
 | [],_,_,h,_=>by simp [Ki] at h
 | t :: l,k,s,h,hk=>by
  simp only [Ki] at h
  split at h
  ·cases k with
   | zero=>simp at hk;subst hk;assumption
   | succ k=>exact Jii (l:=l) (k:=k) (by omega) (by simpa using hk)
  ·omega
theorem Jks {x:List UInt8}:∀ {l:List (List UInt8)} {s:List UInt8},l[Ki x l]? = some s→Op.bytesLess s x=false
 | [],_,h=>by simp at h
 | t :: l,s,h=>by
  simp only [Ki] at h
  split at h
  ·exact Jks (l:=l) (by simpa using h)
  ·rename_i h1
   simp only [List.getElem?_cons_zero,Option.some.injEq] at h
   subst h
   exact Bool.not_eq_true _ ▸ h1
def Mono (x:List UInt8) (l:List (List UInt8)):Prop:=∀ (i j:Nat) (s t:List UInt8),i≤j→l[i]? = some s→l[j]? = some t→Op.bytesLess t x=true→Op.bytesLess s x=true
theorem Jpj {x:List UInt8} {l:List (List UInt8)} (hmo:Mono x l) {k:Nat} {s:List UInt8} (hk:l[k]? = some s):(Op.bytesLess s x=true ↔ k<Ki x l):=by
 constructor
 ·intro h
  by_cases hlt:k<Ki x l
  ·exact hlt
  ·have hkl:=(List.getElem?_eq_some_iff.1 hk).1
   obtain ⟨t,ht⟩:∃ t,l[Ki x l]? = some t:=⟨_,List.getElem?_eq_getElem (show Ki x l<l.length from Nat.lt_of_le_of_lt (Nat.le_of_not_lt hlt) hkl)⟩
   have:=hmo (Ki x l) k t s (by omega) ht hk h
   rw [Jks ht] at this;cases this
 ·exact fun h=>Jii h hk
def strL (l:List (List UInt8)):List (List PV):=l.map fun s=>[.str s]
def Xv (x:List UInt8) (l:List (List UInt8)):Bool:=match l[Ki x l]? with
 | some s=>s == x
 | none=>false
theorem half {i j:Nat} (h:i+j≤2000000):IntKind.i64.wrap ((IntKind.u64.wrap (IntKind.i64.wrap ((i:Int)+(j:Int)))).fdiv (2 ^ min 1 IntKind.u64.bits))=(((i+j) / 2:Nat):Int):=by
 have e:(((i+j:Nat):Int)).fdiv (2 ^ min 1 IntKind.u64.bits)=(((i+j) / 2:Nat):Int):=by
  rw [show min 1 IntKind.u64.bits=1 by decide,Int.fdiv_eq_ediv_of_nonneg _ (by decide)];simp
 rw [Aa (n:=(i:Int)+j) (by omega) (by omega),show ((i:Int)+(j:Int))=((i+j:Nat):Int) by omega,Jbs (n:=((i+j:Nat):Int)) (by omega) (by omega)]
 rw [e,Aa (by omega) (by omega)]
theorem Jo0 (a:List UInt8):Det cx 235 [.p (.str a)] [] (.p (.bool false)) []:=by
 (refine Bz.of_code (X:=cx) false [] (by simp) Tryz.func235 (by kernel_rfl) rfl (by simp only [List.length_cons,List.length_nil,Tryz.ntmps235];decide) (by simp) ?_;refine Ax hm _ _ _ ?_;simp only [Tryz.ntmps235,Tryz.results235,Ah,Bn,Cn,Ab,Bd,A0,Bb,Be,Az,C0,Ba,Ai,B8,F4,Aq,Qz,Ag,Ae,A3,Bt,Cy,Cz,A7,A8,B9,Aw,Ao,Al,B5,B6,Af,Am,Ap,Cl,A1,A2,Ad,Ac,argW,List.map_cons,List.map_nil,Nat.reduceLT,Nat.reduceEqDiff,Ca,↓reduceIte,reduceCtorEq,Bool.not_true,Bool.or_false,beq_self_eq_true,and_self])
theorem Xy (a:List UInt8):Det cx 192 [.p (.str a)] [] (.p (.bool false)) []:=by
 (refine Bz.of_code (X:=cx) false [] (by simp) Tryz.func192 (by kernel_rfl) rfl (by simp only [List.length_cons,List.length_nil,Tryz.ntmps192];decide) (by simp) ?_;refine Ax hm _ _ _ ?_;simp only [Tryz.ntmps192,Tryz.results192,Ah,Bn,Cn,Ab,Bd,A0,Bb,Be,Az,C0,Ba,Ai,B8,F4,Aq,Qz,Ag,Ae,A3,Bt,Cy,Cz,A7,A8,B9,Aw,Ao,Al,B5,B6,Af,Am,Ap,Cl,A1,A2,Ad,Ac,argW,List.map_cons,List.map_nil,Nat.reduceLT,Nat.reduceEqDiff,Ca,↓reduceIte,reduceCtorEq,Bool.not_true,Bool.or_false,beq_self_eq_true,and_self])
theorem Jqu (a b:List UInt8):Det cx 191 [.p (.str a),.p (.str b)] [] (.p (.bool (Op.bytesLess a b))) []:=by
 (refine Bz.of_code (X:=cx) false [] (by simp) Tryz.func191 (by kernel_rfl) rfl (by simp only [List.length_cons,List.length_nil,Tryz.ntmps191];decide) (by simp) ?_;refine Ax hm _ _ _ ?_;simp only [Tryz.ntmps191,Tryz.results191,Ah,Bn,Ab,Bd,A0,Bb,Be,Az,Ce,C0,Ba,Ai,Cc,Ag,Ae,A3,Cd,Bv,Bm,Bx,Bw,A5,B3,Bi,Ay,A4,Cj,Ad,Ac,argW,List.map_cons,List.map_nil,List.append_nil,List.flatMap_cons,List.flatMap_nil,Nat.reduceLT,Nat.reduceEqDiff,Ca,Bu,↓reduceIte,reduceCtorEq,Nat.zero_add])
 (repeat' (first | (refine iteI (fun h=>?_) (fun h=>?_))|(refine B2 (by first | omega | (simp (disch:=omega) only [Aa,Ak,Aj] at *;omega)) ?_;intro b hb)|(refine And.intro (by first | omega | (simp (disch:=omega) only [Aa,Ak,Aj] at *;omega)) ?_)|((first | (refine A9 hm (by rfl) (by kernel_rfl) ?_)|(refine Det.use (Jo0 a) ?_)|(refine Det.useQ (Jo0 a) ?_));simp only [Cn,Ab,Bd,A0,Dq,Bb,Ep,Cs,Be,Az,C0,Ba,Ai,B8,Em,C6,D6,Du,D3,D4,F4,Aq,Jhz,Ag,Ae,A3,Bq,B3,Bt,Cy,Cz,A7,A8,B9,Aw,Ao,Al,B5,B6,Af,Am,Ap,Cl,A1,A2,Ad,Ac,List.getD_cons_zero,List.getD_cons_succ,Nat.reduceLT,Nat.reduceEqDiff,Ca,↓reduceIte,reduceCtorEq,Bool.false_eq_true,Bool.or_false,and_self])|(exact True.intro)|(exfalso;omega)))
theorem d_Binary (x:List UInt8) (l:List (List UInt8)) (hmo:Mono x l) (hn:l.length≤1000000):Det cx 125 [.own 1000 0 l.length,.p (.str x)] [(1000,.row 9 1 (strL l))] (.tup [.int .i64 (Ki x l),.bool (Xv x l)]) [(1000,.row 9 1 (strL l))]:=by
 have hpl:=Jcd x l
 (refine Bz.of_code (X:=cx) false [] (by simp) Tryz.func125 (by kernel_rfl) rfl (by simp only [List.length_cons,List.length_nil,Tryz.ntmps125];decide) (by simp) ?_;refine Ax hm _ _ _ ?_;simp only [Tryz.ntmps125,Tryz.results125,Ah,Bn,Ci,H9,Ab,Bd,A0,Bb,Be,Az,C0,Cb,Ba,Ai,Eg,D9,Gg,Ad,Ac,argW,List.map_cons,List.map_nil,Nat.reduceLT,Nat.reduceEqDiff,Ca,↓reduceIte,reduceCtorEq,Nat.zero_add,Mi])
 (repeat' (first | (refine iteI (fun h=>?_) (fun h=>?_))|(refine B2 (by first | omega | (simp (disch:=omega) only [Aa,Ak,Aj] at *;omega)) ?_;intro b hb)|(refine And.intro (by first | omega | (simp (disch:=omega) only [Aa,Ak,Aj] at *;omega)) ?_)|((first | (refine A9 hm (by rfl) (by kernel_rfl) ?_));simp only [Dm])|(exact True.intro)|(exfalso;omega)))
 refine SWP.loop (fun p:Nat×Nat=>⟨Fo 54 [(0,.own 1000 0 l.length),(1,.p (.str x)),(5,.p (.bool false)),(6,.p (.int .i64 l.length)),(7,.p (.int .i64 p.1)),(8,.p (.int .i64 p.2))],[(1000,.row 9 1 (strL l))]⟩) (fun p=>p.1≤Ki x l∧Ki x l≤p.2∧p.2≤l.length) (fun p=>p.2 - p.1) (0,l.length) (St.le_slots (by simp only [Ck,Cm,Ac,Bj,Au,Nat.reduceEqDiff,reduceIte,Nat.reduceLT,Nat.reduceLeDiff];simp (disch:=omega) [Au,Bc,Cq,Aa] <;> (repeat' apply And.intro) <;> omega) (by simp (disch:=omega) [Dj,Eo,Dg,Bh,Au,Bc,Cq,Aa]) (by simp [Dk])) ⟨Nat.zero_le _,hpl,Nat.le_refl _⟩ ?_
 rintro ⟨i,j⟩ ⟨h1,h2,h3⟩
 simp only at h1 h2 h3
 by_cases hi:i<j
 ·have hh:=half (i:=i) (j:=j) (by omega)
  obtain ⟨s,hs⟩:∃ s,l[(i+j) / 2]? = some s:=⟨_,List.getElem?_eq_getElem (show (i+j) / 2<l.length by omega)⟩
  have hg:(strL l)[(i+j) / 2]? = some [.str s]:=by simp [strL,hs]
  have hiff:=Jpj hmo hs
  have c1:((i:Int)<(j:Int))=True:=eq_true (by omega)
  have c2:=c1
  skip
  (refine Ax hm _ _ _ ?_;simp only [Ch,Ah,Bn,Bs,Ci,Ab,Bd,A0,Bb,Be,Az,Ce,Cb,Ba,Ai,B8,Kq,D5,Cp,Cc,Bg,Br,Av,B0,Aq,Jfh,Hb,D1,Nv,Iy,Li,Io,B7,Kr,Ku,He,Qn,C5,Da,Nb,Ag,Ae,A3,Cd,Bv,Bm,Bx,Bw,A5,B3,Bi,Ay,A4,Ar,Cj,Ad,Ac,List.map_cons,List.map_nil,List.append_nil,List.flatMap_cons,List.flatMap_nil,List.getElem?_cons_zero,decide_eq_true_eq,Nat.reduceLT,Nat.reduceEqDiff,Int.reduceToNat,Int.reduceLE,true_and,Ca,Bu,↓reduceIte,reduceCtorEq,Int.toNat_natCast,Int.natCast_nonneg,Nat.zero_add,Bool.true_and,Bool.or_false,Bool.or_true,Jdn,L9,Kw,K2,Jib,hh,hg,c1])
  (repeat' (first | (refine iteI (fun h=>?_) (fun h=>?_))|(refine B2 (by first | omega | (simp (disch:=omega) only [Aa,Ak,Aj] at *;omega)) ?_;intro b hb)|(refine And.intro (by first | omega | (simp (disch:=omega) only [Aa,Ak,Aj] at *;omega)) ?_)|((first | (refine A9 hm (by rfl) (by kernel_rfl) ?_)|(refine Det.use (Jqu s x) ?_)|(refine Det.useQ (Jqu s x) ?_));simp only [Ah,Bs,Ab,Bo,Bd,A0,Bb,Cs,Be,Az,Cb,Ba,Ai,B8,Br,Av,B0,Aq,Hb,Bq,B3,Ad,Ac,Ea,List.map_cons,List.map_nil,Nat.reduceLT,Nat.reduceEqDiff,Ca,↓reduceIte,Bool.or_true])|(exact True.intro)|(exfalso;omega)))
  ·have hlt:=hiff.1 (by assumption)
   exact ⟨((i+j) / 2+1,j),⟨by simp only;omega,by simp only;omega,by simp only;omega⟩,by simp only;omega,(St.le_slots (by simp only [Ck,Cm,Ac,Bj,Au,Nat.reduceEqDiff,reduceIte,Nat.reduceLT,Nat.reduceLeDiff];simp (disch:=omega) [Au,Bc,Cq,Aa] <;> (repeat' apply And.intro) <;> omega) (by simp (disch:=omega) [Dj,Eo,Dg,Bh,Au,Bc,Cq,Aa]) (by simp [Dk]))⟩
  ·have hlt:¬ (i+j) / 2<Ki x l:=fun h=>by have:=hiff.2 h;simp_all
   exact ⟨(i,(i+j) / 2),⟨by simp only;omega,by simp only;omega,by simp only;omega⟩,by simp only;omega,(St.le_slots (by simp only [Ck,Cm,Ac,Bj,Au,Nat.reduceEqDiff,reduceIte,Nat.reduceLT,Nat.reduceLeDiff];simp (disch:=omega) [Au,Bc,Cq,Aa] <;> (repeat' apply And.intro) <;> omega) (by simp (disch:=omega) [Dj,Eo,Dg,Bh,Au,Bc,Cq,Aa]) (by simp [Dk]))⟩
 ·have c1:((i:Int)<(j:Int))=False:=eq_false (by omega)
  have hij:i=Ki x l:=by omega
  subst hij
  have hh:=c1
  by_cases hl:Ki x l<l.length
  ·have c2:((Ki x l:Int)<(l.length:Int))=True:=eq_true (by omega)
   obtain ⟨s,hs⟩:∃ s,l[Ki x l]? = some s:=⟨_,List.getElem?_eq_getElem hl⟩
   have hg:(strL l)[Ki x l]? = some [.str s]:=by simp [strL,hs]
   have hf:Xv x l=(s == x):=by unfold Xv;rw [hs]
   (refine Ax hm _ _ _ ?_;simp only [Ah,Bn,Bs,Fd,Cn,Ab,Co,B4,Bd,A0,Dq,Bb,Ep,Be,Az,Ce,C0,Ba,Ai,B8,Em,D5,Cp,Cc,Bg,Br,C6,D6,Du,D3,Kg,D4,Av,F4,Aq,D1,Pz,B7,Kr,Ku,He,Qn,C5,Da,Nb,Ag,Ae,A3,Cd,Bv,Bm,Bx,Bw,A5,B3,Bi,Ay,A4,Bt,Cy,Cz,A7,A8,B9,Aw,Ao,D2,Al,B5,B6,Af,Am,Ap,De,A1,Ar,Cj,A2,Ad,Ac,Ea,List.map_cons,List.map_nil,List.getD_cons_zero,List.getD_cons_succ,List.append_nil,List.flatMap_cons,List.flatMap_nil,List.getElem?_cons_zero,decide_eq_true_eq,beq_iff_eq,Nat.reduceLT,Nat.reduceEqDiff,true_and,and_true,Ca,Bu,↓reduceIte,reduceCtorEq,Int.toNat_natCast,Int.natCast_nonneg,Nat.zero_add,PV.bool.injEq,L.tup.injEq,List.cons.injEq,Bool.false_eq_true,Bool.true_and,Bool.and_true,Bool.or_false,L9,Kw,K2,hh,hg,c2])
   (repeat' (first | (refine iteI (fun h=>?_) (fun h=>?_))|(refine B2 (by first | omega | (simp (disch:=omega) only [Aa,Ak,Aj] at *;omega)) ?_;intro b hb)|(refine And.intro (by first | omega | (simp (disch:=omega) only [Aa,Ak,Aj] at *;omega)) ?_)|((first | (refine A9 hm (by rfl) (by kernel_rfl) ?_)|(refine Det.use (Xy s) ?_)|(refine Det.useQ (Xy s) ?_)|(refine Det.use (Xy x) ?_)|(refine Det.useQ (Xy x) ?_));simp only [Cn,Ab,Bd,A0,Dq,Bb,Ep,Cs,Be,Az,C0,Ba,Ai,Em,C6,D6,Du,D3,D4,Ag,Ae,A3,Bq,B3,Bt,Cy,Cz,A7,A8,B9,Aw,Ao,D2,Al,B5,B6,Af,Am,Ap,De,A1,Ar,A2,Ad,Ac,List.getD_cons_zero,List.getD_cons_succ,Nat.reduceLT,Nat.reduceEqDiff,true_and,and_true,↓reduceIte,PV.bool.injEq,L.tup.injEq,List.cons.injEq,Bool.false_eq_true,Bool.true_and,Bool.and_true])|(exact True.intro)|(exfalso;omega)))
   all_goals simp [hf, *]
  ·have hg:=c1
   have c2:((Ki x l:Int)<(l.length:Int))=False:=eq_false (by omega)
   have hf:Xv x l=false:=by unfold Xv;rw [List.getElem?_eq_none (by omega)]
   (refine Ax hm _ _ _ ?_;simp only [Ah,Bn,Bs,Fd,Cn,Ab,Co,B4,Bd,A0,Dq,Bb,Ep,Be,Az,C0,Ba,Ai,B8,Em,Br,C6,D6,Du,Kg,D4,Av,Aq,D1,Ag,Ae,A3,Bt,Cy,Cz,A7,A8,B9,Aw,Ao,D2,Al,B5,B6,Af,Am,Ap,De,A1,Ar,A2,Ad,Ac,Ea,List.map_cons,List.map_nil,List.getD_cons_zero,List.getD_cons_succ,decide_eq_true_eq,Nat.reduceLT,Nat.reduceEqDiff,true_and,and_true,Ca,↓reduceIte,reduceCtorEq,PV.bool.injEq,L.tup.injEq,List.cons.injEq,Bool.false_eq_true,Bool.true_and,Bool.and_true,Bool.or_false,hh,c2])
   (repeat' (first | (refine iteI (fun h=>?_) (fun h=>?_))|(refine B2 (by first | omega | (simp (disch:=omega) only [Aa,Ak,Aj] at *;omega)) ?_;intro b hb)|(refine And.intro (by first | omega | (simp (disch:=omega) only [Aa,Ak,Aj] at *;omega)) ?_)|((first | (refine A9 hm (by rfl) (by kernel_rfl) ?_));simp only [Dm])|(exact True.intro)|(exfalso;omega)))
   all_goals exact hf.symm
end Go.LX
set_option maxRecDepth 100000
set_option maxHeartbeats 2000000
namespace Go.LX
open Go Go.RowKit Go.Proofs
attribute [local irreducible] Bz SWP Gm
theorem Jmz {rs:Regs} {d1 o1 n1 d2 o2 n2:Nat} {T1 T2:TypeId} {es1:List (List PV)} {f2:Bool} {es2:List (List L)} (h1:Bh d1 rs=some (.row T1 1 es1)) (h2:Bh d2 rs=some (.lrow T2 1 f2 es2)) (hne:d1≠d2) (hp1:0<es1.length) (hp2:0<es2.length) :
  C7 cx 193 [.own d1 o1 n1,.own d2 o2 n2] rs (.p (.bool false)) :=
 Jjb (X:=cx) Tryz.func193 (by kernel_rfl) (by kernel_rfl) (by kernel_rfl) (tS:=67) (tR:=4) (e:=9) (by kernel_rfl) K2 h1 h2 hne hp1 hp2
theorem Jk1 (es:List (List PV)) (n i:Nat) (x:List UInt8) (h:es.length=n) (hi:i<n) (hn:n≤1000000) (h1:∀ q∈es,q.length=1):Det cx 127 [.own 1000 0 n,.p (.int .i64 i),.own 1001 0 1] [(1001,.row 9 1 [[.str x]]),(1000,.row 9 1 es)] (.own 900 0 (n+1)) [(900,.row 9 1 (es.take i ++ [[.str x]] ++ es.drop i)),(1001,.row 9 1 [[.str x]])]:=by
 refine Bz.trunc (n+1) ?_
 refine Bz.sub (Post:=fun m q=>m=.own 900 0 (n+1)∧((∃ r,q=[(900,.row 9 1 (es.take i ++ [[.str x]] ++ es.drop i)),(1001,.row 9 1 [[.str x]]),(1000,r)])∨∃ b ls,q=[(900,.lrow 9 1 b ls),(1001,.row 9 1 [[.str x]])]∧J0 (ls.take (n+1))=some (es.take i ++ [[.str x]] ++ es.drop i))) ?_ (by
  rintro m q ⟨rfl,⟨r,rfl⟩ | ⟨b,ls,rfl,hp⟩⟩
  ·exact ⟨_,((List.nil_sublist _).cons_cons _).cons_cons _,rfl,.inl rfl⟩
  ·exact ⟨_,List.Sublist.refl _,rfl,.inr ⟨b,ls,rfl,hp⟩⟩)
 refine Bz.of_code (X:=cx) true [(40,900)] (by simp) Tryz.func127 (by kernel_rfl) rfl (by simp only [List.length_cons,List.length_nil,Tryz.ntmps127];decide) (by simp) ?_
 refine SWP.spare (d:=1000) (T:=9) (es:=es) rfl (by omega) fun k=>?_
 generalize hls:es.map (List.map L.p) ++ List.replicate k [L.junk]=ls
 have hll:ls.length=n+k:=by rw [← hls];simp [h]
 have c1:((i:Int)=(n:Int))=False:=eq_false (by omega)
 have hp0:(0<ls.length)=True:=eq_true (by omega)
 have hr1:J0 (ls.take i)=some (es.take i):=by rw [← hls];exact Qh (by omega)
 have w1:IntKind.i64.wrap ((n:Int)+((1:Nat):Int))=((n+1:Nat):Int):=by rw [Aa (by omega) (by omega)];omega
 have w3:IntKind.i64.wrap ((i:Int)+((1:Nat):Int))=((i+1:Nat):Int):=by rw [Aa (by omega) (by omega)];omega
 have c4:(((1:Nat):Int)=0)=False:=by simp
 have c7:((1:Nat)=0)=False:=by simp
 have c6:(n - i=0)=False:=eq_false (by omega)
 have e2:List.take (n+1 - i) [[PV.str x]]=[[PV.str x]]:=List.take_of_length_le (by simp;omega)
 have e3:n+1 - (i+1)=n - i:=by omega
 have e5:(es.drop i).length=n - i:=by simp [h]
 have hr2:J0 ((ls.drop i).take (n - i))=some (es.drop i):=by rw [← hls,Xo (by omega),List.take_of_length_le (by simp;omega)]
 by_cases hk:k=0
 ·subst hk
  have c2:((ls.length:Int)<((n+1:Nat):Int))=True:=eq_true (by omega)
  have c3:((n:Int)<((n+1:Nat):Int))=True:=eq_true (by omega)
  have w2:IntKind.i64.wrap (((n+1:Nat):Int) - (i:Int))=((n+1 - i:Nat):Int):=by rw [Aa (by omega) (by omega)];omega
  simp only [Nat.add_zero] at hll
  have e1:i+(n+1 - i)=n+1:=by omega
  have hT:(es.take i ++ List.replicate (n+1 - i) [PV.str []]).take i=es.take i:=by rw [List.take_append_of_le_length (by simp;omega),List.take_take,Nat.min_self]
  have hD:(es.take i ++ List.replicate (n+1 - i) [PV.str []]).drop (i+1)=List.replicate (n - i) [PV.str []]:=by
   rw [List.drop_append,List.drop_eq_nil_of_le (by simp;omega),List.nil_append,List.drop_replicate];congr 1;simp;omega
  have hF:List.map (fun e=>List.map (L.forget 40) e) ls=ls:=by rw [← hls];exact Vq (fun _=>rfl) rfl _ _
  have c5:(i+(n - i)≤n)=True:=eq_true (by omega)
  have e4:min (n - i) (n - i)=n - i:=Nat.min_self _
  have hB:(es.take i ++ [[PV.str x]] ++ List.replicate (n - i) [PV.str []]).take (i+1) ++ es.drop i ++ (es.take i ++ [[PV.str x]] ++ List.replicate (n - i) [PV.str []]).drop (i+1+(n - i))=es.take i ++ [[PV.str x]] ++ es.drop i:=by
   have l1:(es.take i ++ [[PV.str x]]).length=i+1:=by simp;omega
   rw [List.take_append_of_le_length (by omega),List.take_of_length_le (l:=es.take i ++ [[PV.str x]]) (by omega),List.drop_eq_nil_of_le (show (es.take i ++ [[PV.str x]] ++ List.replicate (n - i) [PV.str []]).length≤i+1+(n - i) by simp;omega),List.append_nil]
  have hC:=hB
  skip
  simp only [Tryz.ntmps127,Tryz.results127,Cu,argW,List.map_cons,List.map_nil,Nat.reduceEqDiff,Nat.reduceAdd,Ca,↓reduceIte,Nat.zero_add]
  (refine Ax hm _ _ _ ?_;simp only [Ch,Ah,Bn,Bs,Ab,Bd,A0,Bb,Cs,Be,Az,Cb,E1,Ba,Ai,B8,Ft,Eg,Ws,Fy,Jcy,Bp,Iv,Br,Av,B0,Aq,Hb,Nn,H0,Js,D9,Gg,E9,Ef,Fn,Vn,Oz,Md,N2,So,Oi,Ly,Q0,Cr,G0,Jbj,F1,Vm,Jl3,Jmu,u_apG,Jlx,W6,Jdd,Jb8,Jef,Jjc,N8,Ye,Ss,Q6,Jdb,F6,Jb,Ar,B1,Cw,Cu,Fv,Y1,E6,F5,Ad,Ac,Bl,Bf,A6,List.map_cons,List.map_nil,List.length_cons,List.length_nil,List.take_succ_cons,List.take_nil,List.drop_zero,decide_eq_true_eq,beq_iff_eq,Nat.reduceLT,Nat.reduceLeDiff,Nat.reduceEqDiff,true_and,Ca,↓reduceIte,reduceCtorEq,Int.toNat_natCast,Int.natCast_nonneg,Nat.zero_add,Bool.true_and,Bool.or_false,Bool.or_true,Jdn,Kw,Wn,Jey,Mi,K2,Jfm,Jh9,Jhv,Z0,hll,c1,c3,c4,c7,w1,w2,hr1,Nat.sub_zero,List.length_replicate,e1,e2,hT,hD,hF])
  (repeat' (first | (refine And.intro (by first | omega | (simp;done)|(simp;omega)|(intro q hq;exact h1 q (List.mem_of_mem_drop hq))|(intro q hq;exact h1 q hq)|(intro q hq;simp at hq;subst hq;rfl)) ?_)))
  (refine Qr 8 hm (by kernel_rfl) (by kernel_rfl) ?_;simp only [Ah,Bn,Cn,Ab,Cf,Bd,A0,Bb,Be,Ba,Ai,Ws,Je,Nq,Qd,Bp,Jci,Jeg,Q4,Av,Aq,Hb,E9,Ef,Fn,Oz,N2,Oi,Ly,Bk,E8,C1,O8,B3,Dl,Ek,W6,Jdd,Jb8,Jef,Jjc,N8,Si,Q6,Jcb,F6,Ua,Jx,Aw,Ao,D2,K6,Hl,Af,Ct,F3,Fa,Dx,C9,C8,Ar,Cu,S2,Jct,S5,Tm,Ww,A2,Ad,Ac,Cg,Bf,A6,List.map_cons,List.map_nil,Nat.reduceLT,Nat.reduceEqDiff,Nat.reduceAdd,true_and,and_true,Ca,↓reduceIte,reduceCtorEq,Int.toNat_natCast,Int.natCast_nonneg,Nat.zero_add,List.cons.injEq,Bool.true_and,Bool.and_true,Bool.or_false,Kw,Mi,K2,hll,c5,c6,w3,hr2,e3,e4,e5,hB])
  (repeat' (first | (refine And.intro (by first | omega | (simp;done)|(simp;omega)|(intro q hq;exact h1 q (List.mem_of_mem_drop hq))|(intro q hq;exact h1 q hq)|(intro q hq;simp at hq;subst hq;rfl)) ?_)))
  exact .inl ⟨_,rfl⟩
 ·have c2:((ls.length:Int)<((n+1:Nat):Int))=False:=eq_false (by omega)
  have c3:(((n+k:Nat):Int)<((n+1:Nat):Int))=False:=eq_false (by omega)
  have w2:=c4
  have e1:=c4
  have hT:=c4
  have hD:=c4
  have hF:List.map (fun e=>List.map (L.map (O3 1000 40)) e) ls=ls:=by rw [← hls];exact Vq (fun _=>rfl) rfl _ _
  have c5:(i+(n+1 - i)≤n+k)=True:=eq_true (by omega)
  have e4:min (n+1 - i) (n - i)=n - i:=by omega
  have hB:ls.take (i+1) ++ (es.drop i).map (List.map L.p) ++ ls.drop (i+1+(n - i))=(es.take (i+1) ++ es.drop i).map (List.map L.p) ++ List.replicate (k - 1) [L.junk]:=by
   have:=Jk3 (es:=es) (i:=i) (k:=k) (by omega) hk
   rw [hls,h] at this;exact this
  have hC:((es.take (i+1) ++ es.drop i).map (List.map L.p) ++ List.replicate (k - 1) [L.junk]).take i ++ [[L.p (.str x)]] ++ ((es.take (i+1) ++ es.drop i).map (List.map L.p) ++ List.replicate (k - 1) [L.junk]).drop (i+1)=(es.take i ++ [[PV.str x]] ++ es.drop i).map (List.map L.p) ++ List.replicate (k - 1) [L.junk]:=Ji9 (q:=[PV.str x]) (by omega)
  simp only [Tryz.ntmps127,Tryz.results127,Cu,argW,List.map_cons,List.map_nil,Nat.reduceEqDiff,Nat.reduceAdd,Ca,↓reduceIte,Nat.zero_add]
  (refine Ax hm _ _ _ ?_;simp only [Ch,Ah,Bn,Bs,Ab,Bd,A0,Bb,Be,Az,Ce,Cb,E1,Ba,Ai,B8,Ft,Eg,Cc,Jcy,Br,Av,B0,Aq,Hb,H0,Js,D9,Gg,E9,Ef,Fn,Vn,Oz,Md,N2,So,Ly,Q0,Cd,Bv,Jc9,Ar,Ad,Ac,List.map_cons,List.map_nil,decide_eq_true_eq,beq_iff_eq,Nat.reduceLT,Nat.reduceEqDiff,true_and,Ca,Bu,↓reduceIte,reduceCtorEq,Int.toNat_natCast,Int.natCast_nonneg,Nat.zero_add,Bool.true_and,Bool.or_false,Bool.or_true,Kw,Mi,Jfm,Jh9,Jhv,Z0,hll,c1,c3,c4,w1,w3,Nat.sub_zero,e3])
  (repeat' (first | (refine And.intro (by first | omega | (simp;done)|(simp;omega)|(intro q hq;exact h1 q (List.mem_of_mem_drop hq))|(intro q hq;exact h1 q hq)|(intro q hq;simp at hq;subst hq;rfl)) ?_)))
  refine C7.use (l:=.p (.bool false)) ?_ ?_
  ·exact Jmz rfl rfl (by decide) (by simp) (by omega)
  simp only [Bn,Bs,Ab,Bd,A0,Bb,Cs,Be,Oo,Iv,Br,Jp,Ad,Ac,Nat.reduceLT,↓reduceIte,Bool.not_false]
  refine SWP.of_le (Ix [(1000,40)] _ (by simp)) ?_
  simp only [Bk,E8,C1,O8,B3,Dl,Ek,Af,Ct,F3,Fa,Dx,C9,C8,Cg,Bf,A6,Nat.reduceEqDiff,↓reduceIte,hF]
  (refine Qr 8 hm (by kernel_rfl) (by kernel_rfl) ?_;simp only [Ah,Bn,Cn,Ab,Cf,Bd,A0,Bb,Be,Ba,Ai,Ft,Ws,Je,Nq,Qd,Bp,Jci,Jeg,Q4,Av,Aq,Hb,E9,Ef,Fn,Oz,Md,N2,Ly,Bk,E8,C1,O8,B3,Dl,Ek,W6,Jdd,Jb8,Jef,Jmf,N8,Si,Ye,Ss,Q6,Jdb,Jcb,F6,Ua,Jb,Jx,Aw,Ao,D2,Al,K6,Hl,Af,Ct,F3,Fa,Dx,C9,C8,A1,Ar,Cu,S2,Jct,S5,Tm,Ww,A2,Ad,Ac,Cg,Bf,A6,List.map_cons,List.map_nil,List.length_cons,List.length_nil,List.take_succ_cons,List.take_nil,List.drop_zero,Nat.reduceLT,Nat.reduceLeDiff,Nat.reduceEqDiff,Nat.reduceAdd,true_and,and_true,Ca,↓reduceIte,reduceCtorEq,Int.toNat_natCast,Int.natCast_nonneg,Nat.zero_add,List.cons.injEq,Bool.true_and,Bool.and_true,Bool.or_false,Kw,Mi,K2,hll,c5,c6,c7,w3,hr2,e2,e3,e4,e5,hB,hC])
  (repeat' (first | (refine And.intro (by first | omega | (simp;done)|(simp;omega)|(intro q hq;exact h1 q (List.mem_of_mem_drop hq))|(intro q hq;exact h1 q hq)|(intro q hq;simp at hq;subst hq;rfl)) ?_)))
  rw [Vq (fun _=>rfl) rfl]
  exact .inr ⟨_,_,rfl,by rw [Qh (by simp;omega),List.take_of_length_le (by simp;omega)]⟩
theorem xr_vals {rs:Regs} {d1 o1 n1 d2 o2 n2:Nat} {T1 T2:TypeId} {es1:List (List PV)} {f2:Bool} {es2:List (List L)} (h1:Bh d1 rs=some (.row T1 1 es1)) (h2:Bh d2 rs=some (.lrow T2 1 f2 es2)) (hne:d1≠d2) (hp1:0<es1.length) (hp2:0<es2.length) :
  C7 cx 195 [.own d1 o1 n1,.own d2 o2 n2] rs (.p (.bool false)) :=
 Jjb (X:=cx) Tryz.func195 (by kernel_rfl) (by kernel_rfl) (by kernel_rfl) (tS:=44) (tR:=4) (e:=34) (by kernel_rfl) Ld h1 h2 hne hp1 hp2
theorem Jme (es:List (List PV)) (n i:Nat) (x:PV) (hx:x.scalar=true) (h:es.length=n) (hi:i<n) (hn:n≤1000000) (h1:∀ q∈es,q.length=1):Det cx 128 [.own 1000 0 n,.p (.int .i64 i),.own 1001 0 1] [(1001,.row 34 1 [[x]]),(1000,.row 34 1 es)] (.own 900 0 (n+1)) [(900,.row 34 1 (es.take i ++ [[x]] ++ es.drop i)),(1001,.row 34 1 [[x]])]:=by
 refine Bz.trunc (n+1) ?_
 refine Bz.sub (Post:=fun m q=>m=.own 900 0 (n+1)∧((∃ r,q=[(900,.row 34 1 (es.take i ++ [[x]] ++ es.drop i)),(1001,.row 34 1 [[x]]),(1000,r)])∨∃ b ls,q=[(900,.lrow 34 1 b ls),(1001,.row 34 1 [[x]])]∧J0 (ls.take (n+1))=some (es.take i ++ [[x]] ++ es.drop i))) ?_ (by
  rintro m q ⟨rfl,⟨r,rfl⟩ | ⟨b,ls,rfl,hp⟩⟩
  ·exact ⟨_,((List.nil_sublist _).cons_cons _).cons_cons _,rfl,.inl rfl⟩
  ·exact ⟨_,List.Sublist.refl _,rfl,.inr ⟨b,ls,rfl,hp⟩⟩)
 refine Bz.of_code (X:=cx) true [(40,900)] (by simp) Tryz.func128 (by kernel_rfl) rfl (by simp only [List.length_cons,List.length_nil,Tryz.ntmps128];decide) (by simp) ?_
 refine SWP.spare (d:=1000) (T:=34) (es:=es) rfl (by omega) fun k=>?_
 generalize hls:es.map (List.map L.p) ++ List.replicate k [L.junk]=ls
 have hll:ls.length=n+k:=by rw [← hls];simp [h]
 have c1:((i:Int)=(n:Int))=False:=eq_false (by omega)
 have hp0:(0<ls.length)=True:=eq_true (by omega)
 have hr1:J0 (ls.take i)=some (es.take i):=by rw [← hls];exact Qh (by omega)
 have w1:IntKind.i64.wrap ((n:Int)+((1:Nat):Int))=((n+1:Nat):Int):=by rw [Aa (by omega) (by omega)];omega
 have w3:IntKind.i64.wrap ((i:Int)+((1:Nat):Int))=((i+1:Nat):Int):=by rw [Aa (by omega) (by omega)];omega
 have c4:(((1:Nat):Int)=0)=False:=by simp
 have c7:((1:Nat)=0)=False:=by simp
 have c6:(n - i=0)=False:=eq_false (by omega)
 have e2:List.take (n+1 - i) [[x]]=[[x]]:=List.take_of_length_le (by simp;omega)
 have e3:n+1 - (i+1)=n - i:=by omega
 have e5:(es.drop i).length=n - i:=by simp [h]
 have hr2:J0 ((ls.drop i).take (n - i))=some (es.drop i):=by rw [← hls,Xo (by omega),List.take_of_length_le (by simp;omega)]
 by_cases hk:k=0
 ·subst hk
  have c2:((ls.length:Int)<((n+1:Nat):Int))=True:=eq_true (by omega)
  have c3:((n:Int)<((n+1:Nat):Int))=True:=eq_true (by omega)
  have w2:IntKind.i64.wrap (((n+1:Nat):Int) - (i:Int))=((n+1 - i:Nat):Int):=by rw [Aa (by omega) (by omega)];omega
  simp only [Nat.add_zero] at hll
  have e1:i+(n+1 - i)=n+1:=by omega
  have hT:(es.take i ++ List.replicate (n+1 - i) [PV.snil]).take i=es.take i:=by rw [List.take_append_of_le_length (by simp;omega),List.take_take,Nat.min_self]
  have hD:(es.take i ++ List.replicate (n+1 - i) [PV.snil]).drop (i+1)=List.replicate (n - i) [PV.snil]:=by
   rw [List.drop_append,List.drop_eq_nil_of_le (by simp;omega),List.nil_append,List.drop_replicate];congr 1;simp;omega
  have hF:List.map (fun e=>List.map (L.forget 40) e) ls=ls:=by rw [← hls];exact Vq (fun _=>rfl) rfl _ _
  have c5:(i+(n - i)≤n)=True:=eq_true (by omega)
  have e4:min (n - i) (n - i)=n - i:=Nat.min_self _
  have hB:(es.take i ++ [[x]] ++ List.replicate (n - i) [PV.snil]).take (i+1) ++ es.drop i ++ (es.take i ++ [[x]] ++ List.replicate (n - i) [PV.snil]).drop (i+1+(n - i))=es.take i ++ [[x]] ++ es.drop i:=by
   have l1:(es.take i ++ [[x]]).length=i+1:=by simp;omega
   rw [List.take_append_of_le_length (by omega),List.take_of_length_le (l:=es.take i ++ [[x]]) (by omega),List.drop_eq_nil_of_le (show (es.take i ++ [[x]] ++ List.replicate (n - i) [PV.snil]).length≤i+1+(n - i) by simp;omega),List.append_nil]
  have hC:=hB
  skip
  simp only [Tryz.ntmps128,Tryz.results128,Cu,argW,List.map_cons,List.map_nil,Nat.reduceEqDiff,Nat.reduceAdd,Ca,↓reduceIte,Nat.zero_add]
  (refine Ax hm _ _ _ ?_;simp only [Ch,Ah,Bn,Bs,Ab,Bd,A0,Bb,Cs,Be,Az,Cb,E1,Ba,Ai,B8,Ft,Eg,Ws,Fy,Jcy,Bp,Iv,Br,Av,B0,Aq,Hb,Nn,H0,Js,D9,Gg,E9,Ef,Fn,Vn,Oz,Md,N2,So,Oi,Ly,Q0,Cr,G0,Jbj,F1,Vm,Jl3,Jmu,u_apG,Jlx,W6,Jdd,Jb8,Jef,Jjc,N8,Ye,Ss,Q6,Jdb,F6,Jb,Ar,B1,Cw,Cu,Fv,Y1,E6,F5,Ad,Ac,Bl,Bf,A6,List.map_cons,List.map_nil,List.length_cons,List.length_nil,List.take_succ_cons,List.take_nil,List.drop_zero,decide_eq_true_eq,beq_iff_eq,Nat.reduceLT,Nat.reduceLeDiff,Nat.reduceEqDiff,true_and,Ca,↓reduceIte,reduceCtorEq,Int.toNat_natCast,Int.natCast_nonneg,Nat.zero_add,Bool.true_and,Bool.or_false,Bool.or_true,Jdn,Mx,O1,Ty,O4,Ld,Jfm,Jh9,Jhv,Z0,hll,c1,c3,c4,c7,w1,w2,hr1,Nat.sub_zero,List.length_replicate,e1,e2,hT,hD,hF])
  (repeat' (first | (refine And.intro (by first | omega | (simp;done)|(simp;omega)|(intro q hq;exact h1 q (List.mem_of_mem_drop hq))|(intro q hq;exact h1 q hq)|(intro q hq;simp at hq;subst hq;rfl)) ?_)))
  (refine Qr 8 hm (by kernel_rfl) (by kernel_rfl) ?_;simp only [Ah,Bn,Cn,Ab,Cf,Bd,A0,Bb,Be,Ba,Ai,Ws,Je,Nq,Qd,Bp,Jci,Jeg,Q4,Av,Aq,Hb,E9,Ef,Fn,Oz,N2,Oi,Ly,Bk,E8,C1,O8,B3,Dl,Ek,W6,Jdd,Jb8,Jef,Jjc,N8,Si,Q6,Jcb,F6,Ua,Jx,Aw,Ao,D2,K6,Hl,Af,Ct,F3,Fa,Dx,C9,C8,Ar,Cu,S2,Jct,S5,Tm,Ww,A2,Ad,Ac,Cg,Bf,A6,List.map_cons,List.map_nil,Nat.reduceLT,Nat.reduceEqDiff,Nat.reduceAdd,true_and,and_true,Ca,↓reduceIte,reduceCtorEq,Int.toNat_natCast,Int.natCast_nonneg,Nat.zero_add,List.cons.injEq,Bool.true_and,Bool.and_true,Bool.or_false,Mx,O4,Ld,hll,c5,c6,w3,hr2,e3,e4,e5,hB])
  (repeat' (first | (refine And.intro (by first | omega | (simp;done)|(simp;omega)|(intro q hq;exact h1 q (List.mem_of_mem_drop hq))|(intro q hq;exact h1 q hq)|(intro q hq;simp at hq;subst hq;rfl)) ?_)))
  exact .inl ⟨_,rfl⟩
 ·have c2:((ls.length:Int)<((n+1:Nat):Int))=False:=eq_false (by omega)
  have c3:(((n+k:Nat):Int)<((n+1:Nat):Int))=False:=eq_false (by omega)
  have w2:=c4
  have e1:=c4
  have hT:=c4
  have hD:=c4
  have hF:List.map (fun e=>List.map (L.map (O3 1000 40)) e) ls=ls:=by rw [← hls];exact Vq (fun _=>rfl) rfl _ _
  have c5:(i+(n+1 - i)≤n+k)=True:=eq_true (by omega)
  have e4:min (n+1 - i) (n - i)=n - i:=by omega
  have hB:ls.take (i+1) ++ (es.drop i).map (List.map L.p) ++ ls.drop (i+1+(n - i))=(es.take (i+1) ++ es.drop i).map (List.map L.p) ++ List.replicate (k - 1) [L.junk]:=by
   have:=Jk3 (es:=es) (i:=i) (k:=k) (by omega) hk
   rw [hls,h] at this;exact this
  have hC:((es.take (i+1) ++ es.drop i).map (List.map L.p) ++ List.replicate (k - 1) [L.junk]).take i ++ [[L.p x]] ++ ((es.take (i+1) ++ es.drop i).map (List.map L.p) ++ List.replicate (k - 1) [L.junk]).drop (i+1)=(es.take i ++ [[x]] ++ es.drop i).map (List.map L.p) ++ List.replicate (k - 1) [L.junk]:=Ji9 (q:=[x]) (by omega)
  simp only [Tryz.ntmps128,Tryz.results128,Cu,argW,List.map_cons,List.map_nil,Nat.reduceEqDiff,Nat.reduceAdd,Ca,↓reduceIte,Nat.zero_add]
  (refine Ax hm _ _ _ ?_;simp only [Ch,Ah,Bn,Bs,Ab,Bd,A0,Bb,Be,Az,Ce,Cb,E1,Ba,Ai,B8,Ft,Eg,Cc,Jcy,Br,Av,B0,Aq,Hb,H0,Js,D9,Gg,E9,Ef,Fn,Vn,Oz,Md,N2,So,Ly,Q0,Cd,Bv,Jc9,Ar,Ad,Ac,List.map_cons,List.map_nil,decide_eq_true_eq,beq_iff_eq,Nat.reduceLT,Nat.reduceEqDiff,true_and,Ca,Bu,↓reduceIte,reduceCtorEq,Int.toNat_natCast,Int.natCast_nonneg,Nat.zero_add,Bool.true_and,Bool.or_false,Bool.or_true,Mx,O4,Jfm,Jh9,Jhv,Z0,hll,c1,c3,c4,w1,w3,Nat.sub_zero,e3])
  (repeat' (first | (refine And.intro (by first | omega | (simp;done)|(simp;omega)|(intro q hq;exact h1 q (List.mem_of_mem_drop hq))|(intro q hq;exact h1 q hq)|(intro q hq;simp at hq;subst hq;rfl)) ?_)))
  refine C7.use (l:=.p (.bool false)) ?_ ?_
  ·exact xr_vals rfl rfl (by decide) (by simp) (by omega)
  simp only [Bn,Bs,Ab,Bd,A0,Bb,Cs,Be,Oo,Iv,Br,Jp,Ad,Ac,Nat.reduceLT,↓reduceIte,Bool.not_false]
  refine SWP.of_le (Ix [(1000,40)] _ (by simp)) ?_
  simp only [Bk,E8,C1,O8,B3,Dl,Ek,Af,Ct,F3,Fa,Dx,C9,C8,Cg,Bf,A6,Nat.reduceEqDiff,↓reduceIte,hF]
  (refine Qr 8 hm (by kernel_rfl) (by kernel_rfl) ?_;simp only [Ah,Bn,Cn,Ab,Cf,Bd,A0,Bb,Be,Ba,Ai,Ft,Ws,Je,Nq,Qd,Bp,Jci,Jeg,Q4,Av,Aq,Hb,E9,Ef,Fn,Oz,Md,N2,Ly,Bk,E8,C1,O8,B3,Dl,Ek,W6,Jdd,Jb8,Jef,Jmf,N8,Si,Ye,Ss,Q6,Jdb,Jcb,F6,Ua,Jb,Jx,Aw,Ao,D2,Al,K6,Hl,Af,Ct,F3,Fa,Dx,C9,C8,A1,Ar,Cu,S2,Jct,S5,Tm,Ww,A2,Ad,Ac,Cg,Bf,A6,List.map_cons,List.map_nil,List.length_cons,List.length_nil,List.take_succ_cons,List.take_nil,List.drop_zero,Nat.reduceLT,Nat.reduceLeDiff,Nat.reduceEqDiff,Nat.reduceAdd,true_and,and_true,Ca,↓reduceIte,reduceCtorEq,Int.toNat_natCast,Int.natCast_nonneg,Nat.zero_add,List.cons.injEq,Bool.true_and,Bool.and_true,Bool.or_false,Mx,O4,Ld,hll,c5,c6,c7,w3,hr2,e2,e3,e4,e5,hB,hC])
  (repeat' (first | (refine And.intro (by first | omega | (simp;done)|(simp;omega)|(intro q hq;exact h1 q (List.mem_of_mem_drop hq))|(intro q hq;exact h1 q hq)|(intro q hq;simp at hq;subst hq;rfl)) ?_)))
  rw [Vq (fun _=>rfl) rfl]
  exact .inr ⟨_,_,rfl,by rw [Qh (by simp;omega),List.take_of_length_le (by simp;omega)]⟩
end Go.LX
