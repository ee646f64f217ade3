/- Package quote: Utf, letters, Quote. -/
import Derived.Test.YtmejkfclabmijaaGreatDoorPathBackLxR
set_option linter.unusedSimpArgs false
set_option linter.unusedVariables false
set_option linter.unusedSectionVars false
set_option linter.unnecessarySimpa false
set_option maxRecDepth 100000
set_option maxHeartbeats 2000000
namespace Go.LX
open Go Go.RowKit Go.Proofs
attribute [local irreducible] Bz SWP Gm
theorem Jgv {s:List UInt8} {i:Nat} (h:rlen s i≠0) (hi:i<s.length):(utf (code s i)).length=rlen s i:=by
 have h1:=Yd s i hi
 rw [Sh h hi]
 simp;omega
def letR (r:Int):Option Nat :=
 if r=34 then some 34 else if r=92 then some 92 else if r=8 then some 98 else if r=12 then some 102 else if r=10 then some 110 else if r=13 then some 114 else if r=9 then some 116 else none
def letN:Nat→Nat
 | 0=>34 | 1=>92 | 2=>47 | 3=>8 | 4=>12 | 5=>10 | 6=>13 | 7=>9 | _=>0
theorem Xs {i:Nat} {p:PV×PV} (h:Ng[i]? = some p):i<8∧∃ c r:Nat,p=(.int .u8 c,.int .i32 r):=by
 have hl:=(List.getElem?_eq_some_iff.1 h).1
 have h8:i<8:=hl
 refine ⟨h8,?_⟩
 have key:∀ j:Fin 8,∃ c r:Nat,Ng[j.val]? = some (.int .u8 c,.int .i32 r):=by
  intro j
  match j with
  | ⟨0,_⟩=>exact ⟨34,34,rfl⟩
  | ⟨1,_⟩=>exact ⟨92,92,rfl⟩
  | ⟨2,_⟩=>exact ⟨47,47,rfl⟩
  | ⟨3,_⟩=>exact ⟨98,8,rfl⟩
  | ⟨4,_⟩=>exact ⟨102,12,rfl⟩
  | ⟨5,_⟩=>exact ⟨110,10,rfl⟩
  | ⟨6,_⟩=>exact ⟨114,13,rfl⟩
  | ⟨7,_⟩=>exact ⟨116,9,rfl⟩
 obtain ⟨c,r,hk⟩:=key ⟨i,h8⟩
 rw [hk] at h
 exact ⟨c,r,(Option.some.inj h).symm⟩
theorem Jo5 {i j:Nat} {v w k:PV} (hi:Ng[i]? = some (v,k)) (hj:Ng[j]? = some (w,k)):i=j:=by
 obtain ⟨h1,a,r,e1⟩:=Xs hi
 obtain ⟨h2,b,q,e2⟩:=Xs hj
 obtain ⟨rfl,rfl⟩:=Prod.mk.inj e1
 obtain ⟨rfl,e3⟩:=Prod.mk.inj e2
 have hrq:r=q:=by injection e3 with _ h;omega
 subst hrq
 have key:∀ i j:Fin 8,∀ a b r:Nat,Ng[i.val]? = some (.int .u8 a,.int .i32 r)→Ng[j.val]? = some (.int .u8 b,.int .i32 r)→(letN i.val=r∧letN j.val=r):=by
  intro i j a b r hi hj
  have f:∀ k:Fin 8,∀ c q:Nat,Ng[k.val]? = some (.int .u8 c,.int .i32 q)→letN k.val=q:=by
   intro k c q h
   match k,h with
   | ⟨0,_⟩,h=>cases h;rfl
   | ⟨1,_⟩,h=>cases h;rfl
   | ⟨2,_⟩,h=>cases h;rfl
   | ⟨3,_⟩,h=>cases h;rfl
   | ⟨4,_⟩,h=>cases h;rfl
   | ⟨5,_⟩,h=>cases h;rfl
   | ⟨6,_⟩,h=>cases h;rfl
   | ⟨7,_⟩,h=>cases h;rfl
  exact ⟨f i a r hi,f j b r hj⟩
 obtain ⟨k1,k2⟩:=key ⟨i,h1⟩ ⟨j,h2⟩ a b r hi hj
 have inj:∀ i j:Fin 8,letN i.val=letN j.val→i=j:=by decide
 exact congrArg Fin.val (inj ⟨i,h1⟩ ⟨j,h2⟩ (k1.trans k2.symm))
theorem Jlc {i:Nat} {v:PV} {r:Int} (h:Ng[i]? = some (v,.int .i32 r)):r=34∨r=92∨r=47∨r=8∨r=12∨r=10∨r=13∨r=9:=by
 obtain ⟨h8,_⟩:=Xs h
 have f:∀ k:Fin 8,Ng[k.val]? = some (v,.int .i32 r)→r=34∨r=92∨r=47∨r=8∨r=12∨r=10∨r=13∨r=9:=by
  intro k h
  match k,h with
  | ⟨0,_⟩,h=>cases h;simp
  | ⟨1,_⟩,h=>cases h;simp
  | ⟨2,_⟩,h=>cases h;simp
  | ⟨3,_⟩,h=>cases h;simp
  | ⟨4,_⟩,h=>cases h;simp
  | ⟨5,_⟩,h=>cases h;simp
  | ⟨6,_⟩,h=>cases h;simp
  | ⟨7,_⟩,h=>cases h;simp
 exact f ⟨i,h8⟩ h
def LetMap (es:List (PV×PV)):Prop:=∀ r:Int,(letR r=none∧Ka (.int .i32 r) es 0=some none)∨∃ i c,letR r=some c∧c≤116∧Ka (.int .i32 r) es 0=some (some (i,.int .u8 c))
theorem Jpw:Bz cx 179 [] [] (fun m q=>q=[]∧∃ es,m=.p (.mp es)∧LetMap es):=by
 (refine Bz.of_code (X:=cx) false [] (by simp) Tryz.func179 (by kernel_rfl) rfl (by simp only [List.length_nil,Tryz.ntmps179];decide) (by simp) ?_;refine Ax hm _ _ _ ?_;simp only [Tryz.ntmps179,Tryz.results179,Ah,Bn,Ab,Bd,A0,Bb,Cs,Be,Az,Ce,Jmt,Ai,Cc,Ym,Cr,Ag,Cd,Bv,Bm,Bx,Bw,A5,Bi,Ay,A4,Zr,B1,E6,Ad,Ac,Bl,Bf,A6,argW,List.map_cons,List.map_nil,List.append_nil,List.flatMap_nil,Nat.reduceLT,Nat.reduceEqDiff,true_and,Ca,Bu,↓reduceIte,Bool.true_and])
 (repeat' (first | (refine iteI (fun h=>?_) (fun h=>?_))|(refine B2 (by first | omega | (simp (disch:=omega) only [Aa,Ak,Aj] at *;omega)) ?_;intro b hb)|(refine And.intro (by first | omega | (simp (disch:=omega) only [Aa,Ak,Aj] at *;omega)) ?_)|((first | (refine A9 hm (by rfl) (by kernel_rfl) ?_)|(refine Det.use (V0) ?_)|(refine Det.useQ (V0) ?_));simp only [Ci,H9,Ab,Bd,A0,Cs,Be,Vu,Cr,Bq,B3,Vp,Jm8,B1,Cw,Jjd,E6,Jjk,Ad,Ac,Bl,Bf,A6,Nat.reduceLT,Nat.reduceEqDiff,true_and,Ca,↓reduceIte,Bool.true_and,f_u210])|(exact True.intro)|(exfalso;omega)))
 refine SWP.loop (fun x:List (PV×PV)×List Nat=>⟨Fo 17 [(1,.mref 4),(6,.ptr 6 0 0)],[(6,.obj (.mit Ng x.2)),(4,.obj (.mp x.1))]⟩) (fun x=>MapF (Jja .i32) x.1∧∀ k v,(k,v)∈x.1 ↔ ∃ i∈x.2,Ng[i]? = some (v,k)) (fun x=>Uu x.2 8) ([],[]) (St.le_slots (by simp only [Ck,Cm,Ac,Bj,Au,Nat.reduceEqDiff,reduceIte,Nat.reduceLT,Nat.reduceLeDiff];simp (disch:=omega) [Au,Bc,Cq,Aa] <;> (repeat' apply And.intro) <;> omega) (by simp (disch:=omega) [Dj,Eo,Dg,Bh,Au,Bc,Cq,Aa]) (by simp [Dk])) ⟨MapF.nil,by simp⟩ ?_
 rintro ⟨es,seen⟩ ⟨h1,h2⟩
 simp only at h1 h2
 (refine Ax hm _ _ _ ?_;simp only [Ch,Ah,Bn,Bs,Ci,Fd,Ab,Co,B4,Bd,A0,Bb,Be,Az,Cb,Ba,Ai,Es,Vg,Jn1,Jao,Jkd,Bg,Br,He,En,Ag,Ae,A3,U9,Jog,u_nxM,Joa,u_enT,u_enM,Uj,Jq0,u_muT,u_muR,Jj6,u_mdT,u_mdR,Oj,Lw,Ar,Cu,Ad,Ac,Ea,List.map_cons,List.map_nil,List.getElem?_cons_zero,List.getElem?_cons_succ,Nat.reduceLT,Nat.reduceEqDiff,true_and,Ca,↓reduceIte,Bool.false_eq_true,Bool.true_and,beq_self_eq_true,Qc,Jb7])
 refine ⟨fun j p hj hns=>?_,fun hall=>?_⟩
 ·obtain ⟨h8,c,r,rfl⟩:=Xs hj
  refine ⟨_,hj,?_⟩
  obtain ⟨es',e1,g1,g2⟩:=Jp9 (v:=.int .u8 c) (Jbb .i32) (k:=.int .i32 r) ⟨_,rfl⟩ h1
  skip
  simp only [Bo,Bd,Dd,Bp,Jna,Lw,Cu,Ea,Nat.reduceEqDiff,true_and,↓reduceIte,Bool.true_and,beq_self_eq_true,e1]
  refine ⟨(es',seen ++ [j]),⟨g1,fun k v=>?_⟩,Jgc hns h8,(St.le_slots (by simp only [Ck,Cm,Ac,Bj,Au,Nat.reduceEqDiff,reduceIte,Nat.reduceLT,Nat.reduceLeDiff];simp (disch:=omega) [Au,Bc,Cq,Aa] <;> (repeat' apply And.intro) <;> omega) (by simp (disch:=omega) [Dj,Eo,Dg,Bh,Au,Bc,Cq,Aa]) (by simp [Dk]))⟩
  rw [g2]
  constructor
  ·rintro (⟨rfl,rfl⟩ | ⟨_,hm⟩)
   ·exact ⟨j,by simp,hj⟩
   ·obtain ⟨i,hi,he⟩:=(h2 k v).1 hm
    exact ⟨i,by simp [hi],he⟩
  ·rintro ⟨i,hi,he⟩
   rw [List.mem_append,List.mem_singleton] at hi
   rcases hi with hi | rfl
   ·refine .inr ⟨fun hk=>?_,(h2 k v).2 ⟨i,hi,he⟩⟩
    subst hk
    have:=Jo5 he hj
    subst this
    exact hns hi
   ·rw [hj] at he
    have:=Prod.mk.inj (Option.some.inj he)
    exact .inl ⟨this.2.symm,this.1.symm⟩
 ·obtain ⟨es',e1,g1,g2⟩:=Jpd (Jbb .i32) (k:=.int .i32 47) ⟨_,rfl⟩ h1
  skip
  simp only [Ah,Bn,Cn,Ab,Bd,A0,Bb,Dd,Be,Ba,Ai,Bp,Ag,Ae,Wp,Gq,Y2,Gs,Jna,Bt,Cy,Cz,A7,A8,B9,Aw,Ao,Al,B5,B6,Af,Am,Ap,Cl,A1,Ar,Cu,D8,Dv,Jjr,Jg,J8,Kb,Jdv,A2,Ad,Ac,Dc,Bf,A6,List.map_cons,List.map_nil,Nat.reduceLT,Nat.reduceEqDiff,true_and,↓reduceIte,L.p.injEq,Bool.true_and,e1,e1]
  refine ⟨es',rfl,fun r=>?_⟩
  have inn:∀ (i:Nat) (c r:Int),Ng[i]? = some (.int .u8 c,.int .i32 r)→r≠47→∃ j,Ka (.int .i32 r) es' 0=some (some (j,.int .u8 c)):=fun i c r hi hr =>
   mfind_in (Jbb .i32) g1 ((g2 _ _).2 ⟨fun e=>hr (by injection e),(h2 _ _).2 ⟨i,hall i (List.getElem?_eq_some_iff.1 hi).1,hi⟩⟩)
  unfold letR
  by_cases c1:r=34
  ·subst c1;obtain ⟨j,hj⟩:=inn 0 34 34 rfl (by decide);exact .inr ⟨j,34,rfl,by decide,hj⟩
  by_cases c2:r=92
  ·subst c2;obtain ⟨j,hj⟩:=inn 1 92 92 rfl (by decide);exact .inr ⟨j,92,rfl,by decide,hj⟩
  by_cases c3:r=8
  ·subst c3;obtain ⟨j,hj⟩:=inn 3 98 8 rfl (by decide);exact .inr ⟨j,98,rfl,by decide,hj⟩
  by_cases c4:r=12
  ·subst c4;obtain ⟨j,hj⟩:=inn 4 102 12 rfl (by decide);exact .inr ⟨j,102,rfl,by decide,hj⟩
  by_cases c5:r=10
  ·subst c5;obtain ⟨j,hj⟩:=inn 5 110 10 rfl (by decide);exact .inr ⟨j,110,rfl,by decide,hj⟩
  by_cases c6:r=13
  ·subst c6;obtain ⟨j,hj⟩:=inn 6 114 13 rfl (by decide);exact .inr ⟨j,114,rfl,by decide,hj⟩
  by_cases c7:r=9
  ·subst c7;obtain ⟨j,hj⟩:=inn 7 116 9 rfl (by decide);exact .inr ⟨j,116,rfl,by decide,hj⟩
  refine .inl ⟨by simp [*],Jpu (Jbb .i32) ⟨_,rfl⟩ g1 fun v hv=>?_⟩
  obtain ⟨hne,hm⟩:=(g2 _ _).1 hv
  obtain ⟨i,_,hi⟩:=(h2 _ _).1 hm
  have h47:r≠47:=fun e=>hne (by rw [e])
  have:=Jlc hi
  omega
end Go.LX
set_option maxRecDepth 100000
set_option maxHeartbeats 2000000
namespace Go.LX
open Go Go.RowKit Go.Proofs
attribute [local irreducible] Bz SWP Gm
theorem Jnh (a b:List UInt8):wrs (a ++ b)=wrs a ++ wrs b:=by simp [wrs]
def qr (r:Int):List UInt8:=match letR r with
 | some c=>[92,UInt8.ofNat c]
 | none=>if r<32 then [92,117,48,48] ++ (hex3 (r.toNat+256)).drop 1 else utf r
theorem wr_high {c:Nat} (h:128≤c):wr c=[UInt8.ofNat c]:=by
 unfold wr
 rw [if_neg (by omega),if_neg (by omega),if_neg (by omega),if_neg (by omega),if_neg (by omega),if_neg (by omega),if_neg (by omega),if_neg (by omega)]
theorem wr_low {c:Nat} (h:c<128):wr c=qr c:=by
 have key:∀ m:Fin 128,wr m.val=qr m.val:=by decide
 exact key ⟨c,h⟩
theorem Jio:∀ l:List UInt8,(∀ c∈l,128≤c.toNat)→wrs l=l
 | [],_=>rfl
 | c :: l,h=>by
  show wr c.toNat ++ wrs l=c :: l
  rw [wr_high (h c List.mem_cons_self),Jio l fun d hd=>h d (List.mem_cons_of_mem _ hd)]
  simp
theorem Jpt {r:Int} (h:93≤r):letR r=none:=by
 unfold letR
 rw [if_neg (by omega),if_neg (by omega),if_neg (by omega),if_neg (by omega),if_neg (by omega),if_neg (by omega),if_neg (by omega)]
theorem Jki {s:List UInt8} {i:Nat} (h:rlen s i≠0) (hi:i<s.length):wrs ((s.drop i).take (rlen s i))=qr (code s i):=by
 by_cases h1:at_ s i<128
 ·rw [Jdy.2 h1,(Rh h).2 h1,← wr_low h1]
  rw [List.drop_eq_getElem_cons hi,List.take_succ_cons,List.take_zero]
  show wr s[i].toNat ++ []=wr (at_ s i)
  rw [List.append_nil,Jh1 hi]
 ·have hc:128≤code s i:=by have:=(Rh h).1;omega
  have e:qr (code s i)=utf (code s i):=by
   unfold qr
   rw [Jpt (by omega)]
   simp only
   rw [if_neg (by omega)]
  rw [e,Sh h hi]
  apply Jio
  intro c hm
  rw [← Sh h hi] at hm
  obtain ⟨x,hx,rfl⟩:=List.mem_map.1 hm
  have hx2:128≤x∧x<256:=by
   revert hx
   unfold utfC
   rw [if_neg (by omega)]
   repeat' split
   all_goals (simp;try omega)
  have:=Jt (c:=x) (by omega) (by omega)
  omega
theorem V6 (es:List (List PV)) (s:List UInt8) (n:Nat) (he:es=bstr s) (hn:s.length=n) (h1:n≤1000000000) (h0:n≠0):Det cx 119 [.ptr 1000 0 0] [(500001,.row 5 1 es),(1000,.var 128 [.ptr 1000 0 0,.own 500001 0 n])] (.p (.str s)) [(1000,.var 128 [.ptr 1000 0 0,.junk])]:=by
 subst he
 exact Nh s n hn h1 h0
@[simp] theorem bstr_34:bstr [34]=[[.int .u8 34]]:=rfl
theorem Jqr (u:Nat):(hex3 u).length=3:=rfl
theorem Vz (s:List UInt8) (hs:s.length≤1000000) (hv:valid s=true):Det cx 109 [.p (.str s)] [] (.p (.str (refQ s))) []:=by
 skip
 (refine Bz.of_code (X:=cx) false [] (by simp) Tryz.func109 (by kernel_rfl) rfl (by simp only [List.length_cons,List.length_nil,Tryz.ntmps109];decide) (by simp) ?_;refine Ax hm _ _ _ ?_;simp only [Tryz.ntmps109,Tryz.results109,Ah,Bn,Ab,Bd,A0,Bb,Cs,Az,Ce,Hc,Ai,H2,Cc,Bp,G7,H5,Cr,Ag,Cd,Bv,Bm,Bx,Bw,A5,Bi,Ay,A4,B1,E6,Ad,Bl,Bf,A6,argW,List.map_cons,List.map_nil,List.append_nil,List.flatMap_nil,Nat.reduceLT,Nat.reduceEqDiff,true_and,Ca,Bu,↓reduceIte,Bool.true_and,Jg5])
 (repeat' (first | (refine iteI (fun h=>?_) (fun h=>?_))|(refine B2 (by first | omega | (simp (disch:=omega) only [Aa,Ak,Aj] at *;omega)) ?_;intro b hb)|(refine And.intro (by first | omega | (simp (disch:=omega) only [Aa,Ak,Aj] at *;omega)) ?_)|((first | (refine A9 hm (by rfl) (by kernel_rfl) ?_));simp only [Dm])|(exact True.intro)|(exfalso;omega)))
 refine Jpw.mono fun m q hm'=>?_
 obtain ⟨rfl,es,rfl,hL⟩:=hm'
 simp only [Ah,Bn,Ab,Bd,A0,Bb,Cs,Be,Az,Ce,Cb,Ai,Cc,Ag,Ae,A3,Hi,Cd,Bv,Bm,Bx,Bw,Ew,Bq,Dt,F2,Ff,Fe,Dy,B3,E3,F9,Bi,Ay,Ev,Et,Gw,Ey,Ee,Ez,Ho,Hp,Eu,Ed,Hg,Cj,Ie,Ad,Ac,List.map_cons,List.map_nil,List.length_cons,List.length_nil,List.append_nil,List.flatMap_cons,List.flatMap_nil,List.contains_cons,List.contains_nil,Nat.reduceLT,Nat.reduceEqDiff,Nat.reduceAdd,Bu,↓reduceIte,Nat.zero_add,Bool.false_eq_true,Bool.or_false,beq_self_eq_true]
 (repeat' (first | (refine iteI (fun h=>?_) (fun h=>?_))|(refine B2 (by first | omega | (simp (disch:=omega) only [Aa,Ak,Aj] at *;omega)) ?_;intro b hb)|(refine And.intro (by first | omega | (simp (disch:=omega) only [Aa,Ak,Aj] at *;omega)) ?_)|((first | (refine A9 hm (by rfl) (by kernel_rfl) ?_)|(refine Det.use (Rj 34) ?_)|(refine Det.useQ (Rj 34) ?_));simp only [Ah,Bn,Ci,H9,Ab,Bd,A0,Bb,Cs,Be,Ba,Vu,Cr,Hv,Dn,Gc,Df,Eb,Gu,Hm,K8,E4,E2,Fg,Fm,G9,Gv,Jd,Bk,Dt,Hz,Gx,M9,Fh,Fx,Dy,C1,B3,E3,Dl,F9,Ek,Vp,Uw,Ar,B1,Cw,Hw,Fv,E6,H3,F5,Ad,Ac,Bl,Cg,Bf,A6,List.map_cons,List.map_nil,List.cons_append,List.nil_append,decide_eq_true_eq,ne_eq,not_false_eq_true,Nat.reduceLT,Nat.reduceLeDiff,Nat.reduceEqDiff,true_and,Ca,↓reduceIte,reduceCtorEq,Bool.true_and,Ja])|(exact True.intro)|(exfalso;omega)))
 refine SWP.loop (fun x:Nat×Nat=>⟨Fo 41 [(0,.p (.str s)),(3,.ptr 3 0 0),(4,.p (.mp es)),(12,.ptr 12 0 0)],[(12,.obj (.sit s x.1)),(10,.row 5 1 (bstr (34 :: wrs (s.take x.1)))),(3,.var 128 [.ptr 3 0 0,.own 10 0 (34 :: wrs (s.take x.1)).length])]⟩) (fun x=>x.1≤s.length∧s.length+1≤x.1+x.2∧vF s x.2 x.1=true) (fun x=>s.length - x.1) (0,s.length+1) (St.le_slots (by simp only [Ck,Cm,Ac,Bj,Au,Nat.reduceEqDiff,reduceIte,Nat.reduceLT,Nat.reduceLeDiff];simp (disch:=omega) [Au,Bc,Cq,Aa] <;> (repeat' apply And.intro) <;> omega) (by simp (disch:=omega) [Dj,Eo,Dg,Bh,Au,Bc,Cq,Aa]) (by simp [Dk])) ⟨by simp,by simp,hv⟩ ?_
 rintro ⟨i,f⟩ ⟨h1,h2,h3⟩
 simp only at h1 h2 h3
 obtain ⟨g,rfl⟩:∃ g,f=g+1:=⟨f - 1,by omega⟩
 have hw:=wrs_le (s.take i)
 have hl:(s.take i).length≤s.length:=List.length_take_le' ..
 rw [vF] at h3
 by_cases hlt:¬ i<s.length
 ·have ht:s.take i=s:=List.take_of_length_le (by omega)
  rw [ht] at hw ⊢
  (refine Ax hm _ _ _ ?_;simp only [Ch,Ah,Bn,Bs,Ci,Fd,Ab,Co,B4,Bd,A0,Bb,Be,Az,Ce,Cb,Ba,Ai,Es,Cc,Vg,Yi,Bg,Br,He,En,Ag,Ae,A3,Hi,Cd,Bv,Bm,Bx,Bw,Ew,I4,Dt,F2,Ff,Fe,Ji,Dy,C1,B3,E3,Dl,F9,Ek,Bi,Ay,Ev,Et,Gw,Ey,Ee,Ez,Hk,Ho,Hp,Eu,Ed,U9,S4,Jei,Sz,Jgb,Pb,Oj,Lw,Ar,Cu,Hg,Iw,Cj,Ie,Jr,Ad,Ac,Ea,List.map_cons,List.map_nil,List.length_cons,List.length_nil,List.cons_append,List.nil_append,List.append_nil,List.flatMap_cons,List.flatMap_nil,List.contains_cons,List.contains_nil,List.getElem?_cons_zero,List.getElem?_cons_succ,Nat.reduceLT,Nat.reduceLeDiff,Nat.reduceEqDiff,Nat.reduceAdd,Nat.reduceBEq,true_and,and_true,Ca,Bu,↓reduceIte,reduceCtorEq,Nat.zero_add,Bool.false_eq_true,Bool.true_and,Bool.and_true,Bool.or_false,beq_self_eq_true,Je7,Qc,Jb7,Xn])
  (repeat' (first | (refine iteI (fun h=>?_) (fun h=>?_))|(refine B2 (by first | omega | (simp (disch:=omega) only [Aa,Ak,Aj] at *;omega)) ?_;intro b hb)|(refine And.intro (by first | omega | (simp (disch:=omega) only [Aa,Ak,Aj] at *;omega)) ?_)|((first | (refine A9 hm (by rfl) (by kernel_rfl) ?_)|(refine Det.use (M3 34 _ _ (Mb _) (by simp;omega)) ?_)|(refine Det.useQ (M3 34 _ _ (Mb _) (by simp;omega)) ?_)|(refine Det.use (V6 _ (34 :: wrs s ++ [34]) _ (by simp [bstr]) (by simp) (by simp;omega) (by simp)) ?_)|(refine Det.useQ (V6 _ (34 :: wrs s ++ [34]) _ (by simp [bstr]) (by simp) (by simp;omega) (by simp)) ?_));simp only [Ah,Bn,Cn,Ab,Bd,A0,Bb,Cs,Be,Ce,Ai,Cc,Ag,Ae,A3,Hi,Cd,Bv,Bm,Bx,Bw,Ew,Hv,Dn,G4,Fw,Df,Eb,Gu,G5,E4,E2,Fg,Hr,Fm,Lv,Fi,Gv,Ih,Dp,Bk,I4,Dt,Hz,Hx,Fh,Fx,F2,Ff,Fe,Ji,Dy,C1,X4,B3,E3,Dl,Fc,Hq,F9,Ek,Bi,Ay,Ev,Et,Gw,Ey,Ee,Ez,Hk,Ho,Hp,Eu,Ed,Bt,Cy,Cz,A7,A8,B9,Aw,Ao,Al,B5,B6,Af,Am,Ap,Cl,A1,Ar,Hg,Iw,Ie,Jr,A2,Ad,Ac,Cg,Bf,A6,List.map_cons,List.map_nil,List.length_cons,List.length_nil,List.cons_append,List.nil_append,List.append_nil,List.flatMap_cons,List.flatMap_nil,List.contains_cons,List.contains_nil,Nat.reduceLT,Nat.reduceLeDiff,Nat.reduceEqDiff,Nat.reduceAdd,Nat.reduceBEq,and_true,Bu,↓reduceIte,reduceCtorEq,Nat.zero_add,L.p.injEq,PV.str.injEq,Bool.false_eq_true,Bool.and_true,Bool.or_false,beq_self_eq_true])|(exact True.intro)|(exfalso;omega)))
  rfl
 have hlt:=Decidable.not_not.1 hlt
 rw [if_pos hlt] at h3
 have hd:=Pp s i
 have hrl:=Yd s i hlt
 by_cases hr:rlen s i=0
 ·rw [if_pos hr] at h3;cases h3
 rw [if_neg hr] at h3 hd
 have hR:=Pt hr
 unfold Kv at hR
 have hq:wrs (s.take (i+rlen s i))=wrs (s.take i) ++ qr (code s i):=by
  rw [List.take_add,Jnh,Jki hr hlt]
 have hw0:=wi0 (c:=code s i) (by omega)
 have hw1:IntKind.i64.wrap ((code s i:Int)+256)=((code s i+256:Nat):Int):=by rw [Aa (by omega) (by omega)];omega
 rcases hL (code s i) with ⟨hlr,hmf⟩ | ⟨j,c,hlr,hc,hmf⟩
 ·skip
  (refine Ax hm _ _ _ ?_;simp only [Ch,Ah,Bn,Bs,Ci,Fd,Ab,Co,B4,Bd,A0,Bb,Be,Az,Ce,Cb,Hc,Ba,Ai,B8,Es,Cc,Vg,Yi,Bp,Bg,Br,Av,B0,Aq,D1,He,En,Ag,Ae,A3,Hi,Cd,Bv,Bm,Bx,Bw,Ew,I4,Dt,F2,Ff,Fe,Ji,Dy,C1,B3,E3,Dl,F9,Ek,Bi,Ay,Ev,Et,Gw,Ey,Ee,Ez,Hk,Ho,Hp,Eu,Ed,U9,S4,Jei,Sz,Jgb,Jj2,Jdp,Pb,Oj,Lw,Ar,Cu,Hg,Iw,Cj,Ie,Jr,Ad,Ac,Ea,List.map_cons,List.map_nil,List.length_cons,List.length_nil,List.cons_append,List.nil_append,List.append_nil,List.flatMap_cons,List.flatMap_nil,List.contains_cons,List.contains_nil,List.getElem?_cons_zero,List.getElem?_cons_succ,decide_eq_true_eq,Nat.reduceLT,Nat.reduceLeDiff,Nat.reduceEqDiff,Nat.reduceAdd,Nat.reduceBEq,true_and,and_true,Ca,Bu,↓reduceIte,reduceCtorEq,Nat.zero_add,Bool.false_eq_true,Bool.true_and,Bool.and_true,Bool.or_false,Bool.or_true,beq_self_eq_true,Je7,Qc,Jb7,Xn,hd,hmf])
  (repeat' (first | (refine iteI (fun h=>?_) (fun h=>?_))|(refine B2 (by first | omega | (simp (disch:=omega) only [Aa,Ak,Aj] at *;omega)) ?_;intro b hb)|(refine And.intro (by first | omega | (simp (disch:=omega) only [Aa,Ak,Aj] at *;omega)) ?_)|((first | (refine A9 hm (by rfl) (by kernel_rfl) ?_)|(refine Det.use (Ir _ _ _ (by simp [bstr]) (by simp;omega) (by simp [hex3])) ?_)|(refine Det.useQ (Ir _ _ _ (by simp [bstr]) (by simp;omega) (by simp [hex3])) ?_)|(refine Det.use (Jat (code s i+256) (by omega) (by omega)) ?_)|(refine Det.useQ (Jat (code s i+256) (by omega) (by omega)) ?_)|(refine Det.use (M6 _ _ _ (Mb _) (by simp;omega) (by omega) (by omega)) ?_)|(refine Det.useQ (M6 _ _ _ (Mb _) (by simp;omega) (by omega) (by omega)) ?_));simp only [Ah,Ab,Bo,Bd,A0,Bb,Cs,Be,Az,Ce,Cb,Ba,B8,Kq,Ft,Cc,Av,B0,Aq,Hb,Nv,Iy,Li,Io,E9,Ef,Fn,Ij,Gy,Ag,Ae,A3,Hi,Cd,Bv,Bm,Bx,Bw,Ew,A5,Bq,Hv,Dn,G4,Fw,Df,Eb,Gu,G5,E4,E2,Fg,Hr,Fm,Fi,Gv,Ih,Dp,Bk,I4,Dt,Hz,Hx,Fh,Fx,F2,Ff,Fe,Ji,Dy,C1,X4,B3,E3,Dl,Fc,F9,Ek,Bi,Ay,Ev,A4,Et,Gw,Ey,Ee,Ez,Hk,Ho,Hp,Eu,Ed,Ar,Hg,Iw,Cj,Ie,Jr,Ad,Ac,Cg,Bf,A6,Ea,List.map_cons,List.map_nil,List.length_cons,List.length_nil,List.cons_append,List.nil_append,List.append_nil,List.flatMap_cons,List.flatMap_nil,List.contains_cons,List.contains_nil,Nat.reduceLT,Nat.reduceLeDiff,Nat.reduceEqDiff,Nat.reduceAdd,Nat.reduceBEq,Int.reduceToNat,Int.reduceLE,true_and,and_true,Ca,Bu,↓reduceIte,reduceCtorEq,Nat.zero_add,Bool.false_eq_true,Bool.true_and,Bool.and_true,Bool.or_false,Bool.or_true,beq_self_eq_true,f_u2,Ja,Qc,hw0,hw1,Jqr])|(exact True.intro)|(exfalso;omega)))
  ·have hqr:qr (code s i)=[92,117,48,48] ++ (hex3 (code s i+256)).drop 1:=by
    unfold qr;rw [hlr];simp only;rw [if_pos (by omega)];rfl
   have hrow:bstr (34 :: wrs (s.take (i+rlen s i)))=bstr (34 :: wrs (s.take i)) ++ bstr [92,117,48,48] ++ bstr ((hex3 (code s i+256)).drop 1):=by
    rw [hq,hqr,← List.cons_append,Rc,Rc,List.append_assoc]
   have hlen:(wrs (s.take (i+rlen s i))).length+1=(wrs (s.take i)).length+1+4+((hex3 (code s i+256)).drop 1).length:=by rw [hq,hqr];simp [hex3]
   refine ⟨(i+rlen s i,g),⟨by simp only;omega,by simp only;omega,h3⟩,by simp only;omega,?_⟩
   simp only [List.length_cons]
   rw [hrow,hlen]
   exact (St.le_slots (by simp only [Ck,Cm,Ac,Bj,Au,Nat.reduceEqDiff,reduceIte,Nat.reduceLT,Nat.reduceLeDiff];simp (disch:=omega) [Au,Bc,Cq,Aa] <;> (repeat' apply And.intro) <;> omega) (by simp (disch:=omega) [Dj,Eo,Dg,Bh,Au,Bc,Cq,Aa]) (by simp [Dk]))
  ·have hqr:qr (code s i)=utf (code s i):=by
    unfold qr;rw [hlr];simp only;rw [if_neg (by omega)]
   have hrow:bstr (34 :: wrs (s.take (i+rlen s i)))=bstr (34 :: wrs (s.take i)) ++ bstr (utf (code s i)):=by
    rw [hq,hqr,← List.cons_append,Rc]
   have hlen:(wrs (s.take (i+rlen s i))).length+1=(wrs (s.take i)).length+1+(utf (code s i)).length:=by rw [hq,hqr];simp;omega
   refine ⟨(i+rlen s i,g),⟨by simp only;omega,by simp only;omega,h3⟩,by simp only;omega,?_⟩
   simp only [List.length_cons]
   rw [hrow,hlen]
   exact (St.le_slots (by simp only [Ck,Cm,Ac,Bj,Au,Nat.reduceEqDiff,reduceIte,Nat.reduceLT,Nat.reduceLeDiff];simp (disch:=omega) [Au,Bc,Cq,Aa] <;> (repeat' apply And.intro) <;> omega) (by simp (disch:=omega) [Dj,Eo,Dg,Bh,Au,Bc,Cq,Aa]) (by simp [Dk]))
 ·skip
  (refine Ax hm _ _ _ ?_;simp only [Ch,Ah,Bn,Bs,Ci,Fd,Ab,Co,B4,Bd,A0,Bb,Be,Az,Ce,Cb,Ba,Ai,Es,Cc,Vg,Yi,Bp,Bg,Br,He,En,Ag,Ae,A3,Hi,Cd,Bv,Bm,Bx,Bw,Ew,I4,Dt,F2,Ff,Fe,Ji,Dy,C1,B3,E3,Dl,F9,Ek,Bi,Ay,Ev,Et,Gw,Ey,Ee,Ez,Hk,Ho,Hp,Eu,Ed,U9,S4,Jei,Sz,Jgb,Jj2,Jcq,Pb,Oj,Lw,Ar,Cu,Hg,Iw,Cj,Ie,Jr,Ad,Ac,Ea,List.map_cons,List.map_nil,List.length_cons,List.length_nil,List.cons_append,List.nil_append,List.append_nil,List.flatMap_cons,List.flatMap_nil,List.contains_cons,List.contains_nil,List.getElem?_cons_zero,List.getElem?_cons_succ,Nat.reduceLT,Nat.reduceLeDiff,Nat.reduceEqDiff,Nat.reduceAdd,Nat.reduceBEq,true_and,and_true,Ca,Bu,↓reduceIte,reduceCtorEq,Nat.zero_add,Bool.false_eq_true,Bool.true_and,Bool.and_true,Bool.or_false,beq_self_eq_true,Je7,Qc,Jb7,Xn,hd,hmf,hd,hmf])
  (repeat' (first | (refine iteI (fun h=>?_) (fun h=>?_))|(refine B2 (by first | omega | (simp (disch:=omega) only [Aa,Ak,Aj] at *;omega)) ?_;intro b hb)|(refine And.intro (by first | omega | (simp (disch:=omega) only [Aa,Ak,Aj] at *;omega)) ?_)|((first | (refine A9 hm (by rfl) (by kernel_rfl) ?_)|(refine Det.use (M3 _ _ _ (by simp [bstr]) (by simp;omega)) ?_)|(refine Det.useQ (M3 _ _ _ (by simp [bstr]) (by simp;omega)) ?_));simp only [Ah,Bn,Ab,Bo,Bd,A0,Bb,Cs,Be,Ce,Ba,Cc,Ag,Ae,A3,Hi,Cd,Bv,Bm,Bx,Bw,Ew,Hv,Dn,G4,Fw,Df,Eb,Gu,G5,E4,E2,Fg,Hr,Fm,Fi,Gv,Ih,Dp,Bk,I4,Dt,Hz,Hx,Fh,Fx,F2,Ff,Fe,Ji,Dy,C1,X4,B3,E3,Dl,Fc,F9,Ek,Bi,Ay,Ev,Et,Gw,Ey,Ee,Ez,Hk,Ho,Hp,Eu,Ed,Ar,Hg,Iw,Cj,Ie,Jr,Ad,Ac,Cg,Bf,A6,Ea,List.map_cons,List.map_nil,List.length_cons,List.length_nil,List.cons_append,List.nil_append,List.append_nil,List.flatMap_cons,List.flatMap_nil,List.contains_cons,List.contains_nil,Nat.reduceLT,Nat.reduceLeDiff,Nat.reduceEqDiff,Nat.reduceAdd,Nat.reduceBEq,and_true,Bu,↓reduceIte,reduceCtorEq,Nat.zero_add,Bool.false_eq_true,Bool.and_true,Bool.or_false,beq_self_eq_true])|(exact True.intro)|(exfalso;omega)))
  have hqr:qr (code s i)=[92,UInt8.ofNat c]:=by
   unfold qr;rw [hlr]
  have hrow:bstr (34 :: wrs (s.take (i+rlen s i)))=bstr (34 :: wrs (s.take i)) ++ [[.int .u8 92]] ++ [[.int .u8 c]]:=by
   rw [hq,hqr,← List.cons_append,Rc,List.append_assoc]
   simp [bstr]
   omega
  have hlen:(wrs (s.take (i+rlen s i))).length+1=(wrs (s.take i)).length+1+1+1:=by rw [hq,hqr];simp
  refine ⟨(i+rlen s i,g),⟨by simp only;omega,by simp only;omega,h3⟩,by simp only;omega,?_⟩
  simp only [List.length_cons]
  rw [hrow,hlen]
  exact (St.le_slots (by simp only [Ck,Cm,Ac,Bj,Au,Nat.reduceEqDiff,reduceIte,Nat.reduceLT,Nat.reduceLeDiff];simp (disch:=omega) [Au,Bc,Cq,Aa] <;> (repeat' apply And.intro) <;> omega) (by simp (disch:=omega) [Dj,Eo,Dg,Bh,Au,Bc,Cq,Aa]) (by simp [Dk]))
end Go.LX
set_option maxRecDepth 100000
set_option maxHeartbeats 2000000
namespace Go.LX
open Go Go.RowKit Go.Proofs
attribute [local irreducible] Bz SWP Gm
def utfs (rs:List Int):List UInt8:=rs.flatMap utf
def wq (rs:List Int):List UInt8:=rs.flatMap qr
def AllR (rs:List Int):Prop:=∀ r∈rs,Kv r
theorem Sd (r:Int) (rs:List Int):utfs (r :: rs)=utf r ++ utfs rs:=rfl
theorem Jie (r:Int) (rs:List Int):wq (r :: rs)=qr r ++ wq rs:=rfl
theorem AllR.app {a b:List Int} (h1:AllR a) (h2:AllR b):AllR (a ++ b):=fun r h=>(List.mem_append.1 h).elim (h1 r) (h2 r)
theorem AllR.tail {r:Int} {rs:List Int} (h:AllR (r :: rs)):AllR rs:=fun x hx=>h x (List.mem_cons_of_mem _ hx)
theorem AllR.head {r:Int} {rs:List Int} (h:AllR (r :: rs)):Kv r:=h r List.mem_cons_self
theorem Jaq:∀ (rs:List Int) (s:List UInt8) (f i:Nat),AllR rs→s.drop i=utfs rs→vF s f i=true
 | _,_,0,_,_,_=>rfl
 | [],s,f+1,i,_,h=>by
  have hl:=congrArg List.length h
  simp [utfs] at hl
  rw [vF,if_neg (by omega)]
 | r :: rs,s,f+1,i,ha,h=>by
  rw [Sd] at h
  obtain ⟨h1,_⟩:=Jce ha.head (utfs rs)
  rw [← h,Yu,Nat.add_zero] at h1
  have hp:=S7 r
  have hd:s.drop (i+rlen s i)=utfs rs:=by
   rw [← List.drop_drop,h,h1,List.drop_left]
  rw [vF]
  split
  ·rw [if_neg (by omega)]
   exact Jaq rs s f _ ha.tail hd
  ·rfl
theorem Jas:∀ (f:Nat) (s:List UInt8) (i:Nat),s.length<i+f→vF s f i=true→∃ rs,AllR rs∧s.drop i=utfs rs
 | 0,s,i,hf,_=>⟨[],by simp [AllR],List.drop_eq_nil_of_le (by omega)⟩
 | f+1,s,i,hf,h=>by
  rw [vF] at h
  split at h
  ·rename_i hlt
   split at h
   ·cases h
   ·rename_i hr
    obtain ⟨rs,ha,hd⟩:=Jas f s _ (by omega) h
    refine ⟨(code s i:Int) :: rs,?_,?_⟩
    ·intro r hm
     rcases List.mem_cons.1 hm with rfl | hm
     ·exact Pt hr
     ·exact ha r hm
    ·rw [Sd,Sh hr hlt,← hd,← List.drop_drop,List.take_append_drop]
  ·exact ⟨[],by simp [AllR],List.drop_eq_nil_of_le (by omega)⟩
theorem P2 {s:List UInt8}:valid s=true ↔ ∃ rs,AllR rs∧s=utfs rs :=
 ⟨fun h=>by
  obtain ⟨rs,ha,hd⟩:=Jas (s.length+1) s 0 (by omega) h
  exact ⟨rs,ha,hd⟩,fun ⟨rs,ha,e⟩=>Jaq rs s _ 0 ha (by rw [List.drop_zero];exact e)⟩
theorem wrs_utf {r:Int} (h:Kv r):wrs (utf r)=qr r:=by
 obtain ⟨h1,h2⟩:=Jce h []
 rw [List.append_nil] at h1 h2
 have hp:=S7 r
 have:=Jki (s:=utf r) (i:=0) (by omega) (by omega)
 rw [h1,List.drop_zero,List.take_length,h2] at this
 exact this
theorem Jc5:∀ rs:List Int,AllR rs→wrs (utfs rs)=wq rs
 | [],_=>rfl
 | r :: rs,h=>by rw [Sd,Jie,Jnh,wrs_utf h.head,Jc5 rs h.tail]
theorem qr_pos (r:Int):1≤(qr r).length:=by
 have:=S7 r
 unfold qr
 split
 ·simp
 ·split
  ·simp
  ·exact this
theorem Jfj (r:Int):(letR r=none∧r≠34∧r≠92)∨∃ c,letR r=some c∧R2 c=some r.toNat∧0≤r∧c<256:=by
 unfold letR
 by_cases c1:r=34
 ·subst c1;exact .inr ⟨34,rfl,rfl,by decide,by decide⟩
 by_cases c2:r=92
 ·subst c2;exact .inr ⟨92,rfl,rfl,by decide,by decide⟩
 by_cases c3:r=8
 ·subst c3;exact .inr ⟨98,rfl,rfl,by decide,by decide⟩
 by_cases c4:r=12
 ·subst c4;exact .inr ⟨102,rfl,rfl,by decide,by decide⟩
 by_cases c5:r=10
 ·subst c5;exact .inr ⟨110,rfl,rfl,by decide,by decide⟩
 by_cases c6:r=13
 ·subst c6;exact .inr ⟨114,rfl,rfl,by decide,by decide⟩
 by_cases c7:r=9
 ·subst c7;exact .inr ⟨116,rfl,rfl,by decide,by decide⟩
 refine .inl ⟨by simp [*],c1,c2⟩
theorem tk_drop (s:List UInt8) (i:Nat):tk (s.drop i) 0=tk s i:=by
 unfold tk
 simp only [Vw,Yu,Nat.add_zero,List.drop_zero]
theorem u4_cons {a b c d:UInt8} (t:List UInt8):u4 (92 :: 117 :: a :: b :: c :: d :: t)=(match hexN [a,b,c,d] 0 with | some n=>(n:Int) | none=>-1):=by
 unfold u4
 rw [if_pos ⟨by simp,rfl,rfl⟩]
 rfl
theorem Jql {c r:Nat} {t:List UInt8} (h:R2 c=some r) (hc:c<256):escR (92 :: UInt8.ofNat c :: t)=((r:Int),2):=by
 unfold escR
 rw [if_neg (by simp)]
 have e:at_ (92 :: UInt8.ofNat c :: t) 1=c:=by
  show (UInt8.ofNat c).toNat=c
  simp;omega
 rw [e,h]
theorem Jre {s:List UInt8} (h2:2≤s.length) (h1:R2 (at_ s 1)=none) (h:(0≤u4 s∧u4 s<55296)∨57344≤u4 s):escR s=(u4 s,6):=by
 unfold escR
 rw [if_neg (by omega),h1]
 simp only
 rw [if_neg (by omega),if_pos (by omega)]
theorem tk_qr {r:Int} (h:Kv r) (t:List UInt8):tk (qr r ++ t) 0=(utf r,(qr r).length)∧at_ (qr r ++ t) 0≠34∧32≤at_ (qr r ++ t) 0:=by
 have h':=h
 unfold Kv at h'
 rcases Jfj r with ⟨hl,n1,n2⟩ | ⟨c,hl,hs,h0,hc⟩
 ·by_cases h32:r<32
  ·have e:qr r=[92,117,48,48] ++ (hex3 (r.toNat+256)).drop 1:=by unfold qr;rw [hl];simp only;rw [if_pos h32]
   obtain ⟨n,rfl⟩:=Int.eq_ofNat_of_zero_le (show 0≤r by omega)
   have hn:n<32:=by omega
   have key:∀ m:Fin 32,hexN ([48,48] ++ (hex3 (m.val+256)).drop 1) 0=some m.val:=by decide
   have k:=key ⟨n,hn⟩
   rw [show ((n:Int)).toNat=n from rfl] at e
   have eu:u4 (qr n ++ t)=n:=by
    rw [e]
    show u4 (92 :: 117 :: 48 :: 48 :: hexd ((n+256) / 16 % 16) :: hexd ((n+256) % 16) :: t)=n
    rw [u4_cons]
    have k':hexN [48,48,hexd ((n+256) / 16 % 16),hexd ((n+256) % 16)] 0=some n:=k
    rw [k']
   have e1:at_ (qr n ++ t) 1=117:=by rw [e];rfl
   have e0:at_ (qr n ++ t) 0=92:=by rw [e];rfl
   have el:(qr n).length=6:=by rw [e];rfl
   refine ⟨?_,by rw [e0];decide,by rw [e0];decide⟩
   unfold tk
   rw [if_pos e0,List.drop_zero,Jf4 (Jre (by simp [el];omega) (by rw [e1];rfl) (by rw [eu];omega)) (by decide),eu,el]
  ·have e:qr r=utf r:=by unfold qr;rw [hl];simp only;rw [if_neg h32]
   obtain ⟨h1,h2⟩:=Jce h t
   have hp:=S7 r
   have hcs:=Rh (s:=utf r ++ t) (i:=0) (by omega)
   rw [e]
   refine ⟨?_,by omega,by omega⟩
   unfold tk
   rw [if_neg (by omega),h1,List.drop_zero,List.take_left]
 ·have e:qr r=[92,UInt8.ofNat c]:=by unfold qr;rw [hl]
  have e0:at_ (qr r ++ t) 0=92:=by rw [e];rfl
  have el:(qr r).length=2:=by rw [e];rfl
  refine ⟨?_,by rw [e0];decide,by rw [e0];decide⟩
  unfold tk
  rw [if_pos e0,List.drop_zero,el,e]
  rw [show [92,UInt8.ofNat c] ++ t=92 :: UInt8.ofNat c :: t from rfl,Jf4 (Jql hs hc) (by decide),Int.toNat_of_nonneg h0]
theorem uqF_wq:∀ (rs:List Int) (s t:List UInt8) (f i:Nat) (out:List UInt8),AllR rs→s.drop i=wq rs ++ 34 :: t→s.length<i+f→uqF s f i out=(out ++ utfs rs,i+(wq rs).length+1,0)
 | rs,s,t,0,i,out,_,hd,hf=>by
  have hl:=congrArg List.length hd
  simp at hl
  omega
 | [],s,t,f+1,i,out,_,hd,hf=>by
  have hl:=congrArg List.length hd
  simp [wq] at hl
  have e:at_ s i=34:=by
   rw [show i=i+0 from rfl,← Vw,hd];rfl
  rw [uqF,if_pos (by omega),if_pos e]
  simp [utfs,wq]
 | r :: rs,s,t,f+1,i,out,ha,hd,hf=>by
  have hl:=congrArg List.length hd
  rw [Jie,List.append_assoc] at hd
  simp at hl
  have hp:=qr_pos r
  obtain ⟨k1,k2,k3⟩:=tk_qr ha.head (wq rs ++ 34 :: t)
  rw [← hd,tk_drop] at k1
  rw [← hd,Vw,Nat.add_zero] at k2 k3
  have hd2:s.drop (i+(qr r).length)=wq rs ++ 34 :: t:=by rw [← List.drop_drop,hd,List.drop_left]
  have ih:=uqF_wq rs s t f (i+(qr r).length) (out ++ utf r) ha.tail hd2 (by omega)
  rw [uqF,if_pos (by omega),if_neg k2,k1,if_neg (by simp only;omega)]
  simp only
  rw [ih,Sd,Jie,List.append_assoc,List.length_append,Nat.add_assoc i]
theorem uq_wq {rs:List Int} (h:AllR rs) (t:List UInt8):uq (34 :: wq rs ++ 34 :: t)=(utfs rs,(wq rs).length+2,0):=by
 have e:at_ (34 :: wq rs ++ 34 :: t) 0=34:=rfl
 unfold uq
 rw [if_neg (by rw [e];simp),uqF_wq rs _ t _ 1 [] h rfl (by omega)]
 simp only [List.nil_append]
 congr 2;omega
theorem Jqw (s t:List UInt8):refQ s ++ t=34 :: wrs s ++ 34 :: t:=by simp [refQ]
theorem Jcc (s:List UInt8):(refQ s).length=(wrs s).length+2:=by simp [refQ]
theorem Jo1 {s:List UInt8} (h:valid s=true) (t:List UInt8):uq (refQ s ++ t)=(s,(refQ s).length,0):=by
 obtain ⟨rs,ha,rfl⟩:=P2.1 h
 rw [Jqw,Jcc,Jc5 rs ha,uq_wq ha]
theorem Jjn:∀ (f:Nat) (s:List UInt8) (i:Nat) (out:List UInt8),1≤i→((uqF s f i out).2.2=0∧2≤(uqF s f i out).2.1∧(uqF s f i out).2.1≤s.length)∨((uqF s f i out).2.2=1∧(uqF s f i out).1=[]∧(uqF s f i out).2.1≤s.length)
 | 0,s,i,out,_=>.inr ⟨rfl,rfl,Nat.le_refl _⟩
 | f+1,s,i,out,h1=>by
  rw [uqF]
  split
  ·split
   ·exact .inl ⟨rfl,by simp only;omega,by simp only;omega⟩
   ·split
    ·exact .inr ⟨rfl,rfl,by simp only;omega⟩
    ·exact Jjn f s _ _ (by omega)
  ·exact .inr ⟨rfl,rfl,Nat.le_refl _⟩
theorem Jny (s:List UInt8):((uq s).2.2=0∧2≤(uq s).2.1∧(uq s).2.1≤s.length)∨((uq s).2.2=1∧(uq s).1=[]∧(uq s).2.1≤s.length):=by
 unfold uq
 split
 ·exact .inr ⟨rfl,rfl,Nat.zero_le _⟩
 ·exact Jjn _ _ _ _ (by omega)
theorem qr_utf' {r:Int} (h:32≤r) (h1:r≠34) (h2:r≠92):qr r=utf r:=by
 rcases Jfj r with ⟨hl,_⟩ | ⟨c,hl,_⟩
 ·unfold qr
  rw [hl]
  simp only
  rw [if_neg (by omega)]
 ·exfalso
  unfold letR at hl
  rw [if_neg (by omega),if_neg (by omega),if_neg (by omega),if_neg (by omega),if_neg (by omega),if_neg (by omega),if_neg (by omega)] at hl
  cases hl
theorem qr_len6 (r:Int):(qr r).length≤6:=by
 have:=Zl r
 unfold qr
 split
 ·simp
 ·split
  ·simp [hex3]
  ·omega
theorem utf_len1 {r:Int} (h0:0≤r) (h:r<128):(utf r).length=1:=by rw [M4,Wo ⟨h0,h⟩];rfl
theorem Jpg {c r:Nat} (h:R2 c=some r):(qr r).length≤2∧r<128:=by
 unfold R2 at h
 repeat' split at h
 all_goals first | (cases h;done)|(obtain rfl:=Option.some.inj h;exact ⟨by decide,by decide⟩)
theorem tk_rune {s:List UInt8} {i:Nat} (hi:i<s.length) (h0:(tk s i).2≠0) (h1:at_ s i≠34) (h2:32≤at_ s i):∃ r,Kv r∧(tk s i).1=utf r∧(utf r).length≤(tk s i).2∧(qr r).length≤(tk s i).2:=by
 unfold tk at h0 ⊢
 split
 ·rename_i h92
  rw [if_pos h92] at h0
  generalize s.drop i=d at *
  have e2:(escR d).2≠0:=fun e=>h0 (by unfold escS;rw [if_pos e])
  have eS:escS d=(utf (escR d).1,(escR d).2):=by unfold escS;rw [if_neg e2]
  refine ⟨(escR d).1,Jap e2,by rw [eS],?_⟩
  rw [eS]
  simp only
  have hu:=Zl (escR d).1
  have hq:=qr_len6 (escR d).1
  unfold escR at e2 hu hq ⊢
  split at e2
  ·exact absurd rfl e2
  rename_i hl
  rw [if_neg hl] at hu hq ⊢
  cases hs:R2 (at_ d 1) with
  | some r =>
   obtain ⟨k1,k2⟩:=Jpg hs
   simp only
   rw [utf_len1 (by omega) (by omega)]
   exact ⟨by decide,k1⟩
  | none =>
   rw [hs] at e2 hu hq
   simp only at e2 hu hq ⊢
   split at e2
   ·exact absurd rfl e2
   rename_i c1
   rw [if_neg c1] at hu hq ⊢
   split at e2
   ·rename_i c2
    rw [if_pos c2] at hu hq ⊢
    simp only at hu hq ⊢
    omega
   rename_i c2
   rw [if_neg c2] at hu hq ⊢
   split at e2
   ·exact absurd rfl e2
   rename_i c3
   rw [if_neg c3] at hu hq ⊢
   simp only at hu hq ⊢
   omega
 ·rename_i h92
  rw [if_neg h92] at h0
  simp only at h0 ⊢
  have hcs:=Rh (s:=s) (i:=i) h0
  have hl:=Jgv h0 hi
  refine ⟨code s i,Pt h0,(Sh h0 hi).symm,by omega,?_⟩
  rw [qr_utf' (by omega) (by omega) (by omega)]
  omega
theorem Jf1:∀ (f:Nat) (s:List UInt8) (i:Nat) (rs:List Int) (x:List UInt8) (n:Nat),1≤i→AllR rs→(utfs rs).length+1≤i→(wq rs).length+1≤i→uqF s f i (utfs rs)=(x,n,0)→∃ ts,AllR ts∧x=utfs ts∧(utfs ts).length+2≤n∧(wq ts).length+2≤n
 | 0,s,i,rs,x,n,_,_,_,_,h=>by simp [uqF] at h
 | f+1,s,i,rs,x,n,h1,ha,hu,hw,h=>by
  rw [uqF] at h
  split at h
  ·rename_i hi
   split at h
   ·simp only [Prod.mk.injEq] at h
    obtain ⟨rfl,rfl,_⟩:=h
    exact ⟨rs,ha,rfl,by omega,by omega⟩
   ·rename_i h34
    split at h
    ·simp at h
    ·rename_i hb
     obtain ⟨r,k1,k2,k3,k4⟩:=tk_rune hi (by omega) h34 (by omega)
     rw [k2,show utfs rs ++ utf r=utfs (rs ++ [r]) by simp [utfs]] at h
     have eu:utfs (rs ++ [r])=utfs rs ++ utf r:=by simp [utfs]
     have ew:wq (rs ++ [r])=wq rs ++ qr r:=by simp [wq]
     refine Jf1 f s _ (rs ++ [r]) x n (by omega) (ha.app fun y hy=>?_) (by rw [eu,List.length_append];omega) (by rw [ew,List.length_append];omega) h
     rw [List.mem_singleton.1 hy]
     exact k1
  ·simp at h
theorem Jik {s x:List UInt8} {n:Nat} (h:uq s=(x,n,0)):valid x=true∧x.length+2≤n∧(refQ x).length≤n∧n≤s.length:=by
 have he:=Jny s
 rw [h] at he
 simp only at he
 unfold uq at h
 split at h
 ·simp at h
 ·obtain ⟨ts,ha,rfl,h1,h2⟩:=Jf1 _ s 1 [] x n (by omega) (by simp [AllR]) (by simp [utfs]) (by simp [wq]) h
  refine ⟨P2.2 ⟨ts,ha,rfl⟩,h1,?_,by omega⟩
  rw [Jcc,Jc5 ts ha]
  exact h2
end Go.LX
