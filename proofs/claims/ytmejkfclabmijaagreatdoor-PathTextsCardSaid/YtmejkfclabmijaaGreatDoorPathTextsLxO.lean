/- Of the library, on strings. -/
import Derived.Test.YtmejkfclabmijaaGreatDoorPathTextsLxN
import Derived.Lib.TrimU
import Derived.Test.YtmejkfclabmijaaGreatDoorPathTextsLxE
set_option linter.unusedSimpArgs false
set_option linter.unusedVariables false
set_option linter.unusedSectionVars false
set_option linter.unnecessarySimpa false
set_option maxRecDepth 100000
set_option maxHeartbeats 2000000
namespace Go.LX
open Go Go.RowKit Go.Proofs
attribute [local irreducible] B2 SWP Hb
theorem Jhd (fn s:List UInt8) (b c:Int) (hs:s.length≤1000000):Det cx 184 [.p (.str fn),.p (.str s),.p (.int .i64 b),.p (.int .i64 c),.p (.ifi 213 .i64 2)] [] (.p .ifc) []:=by
 refine Det.of_belowE (enters_of Tryz.func184 (by kernel_rfl) rfl) fun β Im w vs hg hf=>?_
 have hl:vs.length=5:=by simpa using hf.size
 match vs,hl with
 | [v1,v2,v3,v4,v5],_ =>
  have e1:=V7 (hf.tmps 0 _ rfl)
  have e2:=V7 (hf.tmps 1 _ rfl)
  have e3:=Yc (hf.tmps 2 _ rfl)
  have e4:=Yc (hf.tmps 3 _ rfl)
  have e5:=rep_ifi (hf.tmps 4 _ rfl)
  simp [Array.getD] at e1 e2 e3 e4 e5
  subst e1 e2 e3 e4 e5
  obtain ⟨te,pe,he⟩:=(Jnf hg).syn
  exact (Tryz.strconv_toError_syntax ⟨⟨fn⟩⟩ ⟨⟨s⟩⟩ b c _ w (Nat.le_trans hs (by decide)) he (.inr ⟨te,pe,rfl⟩)).mono fun e w' ⟨N,he,_,_,hb⟩=>⟨⟨_,he,fun _ _ _=>.ifc _ _⟩,hb⟩
def Jin (o:Option Nat):L:=match o with
 | some n=>.tup [.int .u64 n,.nifc]
 | none=>.tup [.int .u64 0,.ifc]
theorem Jkr (s:List UInt8) (hs:s.length=4):Det cx 250 [.p (.str s),.p (.int .i64 16),.p (.int .i64 16)] [] (Jin (hexN s 0)) []:=by
 cases h:hexN s 0 with
 | some n =>
  have hc:=Vc s hs
  rw [h] at hc
  simp only [Jmr] at hc
  (refine B2.of_code (X:=cx) false [] (by simp) Tryz.func250 (by kernel_rfl) rfl (by simp only [List.length_cons,List.length_nil,Tryz.ntmps250];decide) (by simp) ?_;refine Ax hm _ _ _ ?_;simp only [Tryz.ntmps250,Tryz.results250,Ah,Bm,Ab,Bd,A1,Bc,Bf,A0,Ch,Ca,Lf,A9,Aj,Cg,Ag,Ae,A3,Cf,Bv,Bi,Bz,Bx,A4,B6,Bh,Az,A5,Cl,Ad,Ac,argW,List.map_cons,List.map_nil,List.append_nil,List.flatMap_cons,List.flatMap_nil,Nat.reduceLT,Nat.reduceEqDiff,Nat.reduceAdd,Cc,Bw,↓reduceIte,reduceCtorEq,Nat.zero_add])
  (repeat' (first | (refine iteI (fun h=>?_) (fun h=>?_))|(refine B1 (by first | omega | (simp (disch:=omega) only [Aa,Ak,Ai] at *;omega)) ?_;intro b hb)|(refine And.intro (by first | omega | (simp (disch:=omega) only [Aa,Ak,Ai] at *;omega)) ?_)|((first | (refine Ba hm (by rfl) (by kernel_rfl) ?_)|(refine Det.use (hc) ?_)|(refine Det.useQ (hc) ?_)|(refine Er.use (hc) ?_)|(refine Dp.use (hc) ?_));simp only [Cb,Ah,Bm,Br,Cn,Ab,Bd,A1,Bc,Ct,Bf,A0,Lf,A9,Aj,B8,Ek,Bl,Bq,Xc,Jht,Mf,Bt,Ar,G8,Eb,Ag,Ae,A3,Bp,Et,Bs,Cs,Cr,A6,A7,B9,Av,Ap,Al,B7,B5,Af,Am,Ao,Cy,Ay,A2,Ad,Ac,List.map_cons,List.map_nil,List.getElem?_cons_zero,List.getElem?_cons_succ,Nat.reduceLT,Nat.reduceEqDiff,and_true,Cc,↓reduceIte,Bool.not_true,Bool.false_eq_true,Bool.and_true,Bool.or_true,Xn])|(exact True.intro)|(exfalso;omega)))
  rfl
 | none =>
  have hc:=Vc s hs
  rw [h] at hc
  simp only [Jmr] at hc
  (refine B2.of_code (X:=cx) false [] (by simp) Tryz.func250 (by kernel_rfl) rfl (by simp only [List.length_cons,List.length_nil,Tryz.ntmps250];decide) (by simp) ?_;refine Ax hm _ _ _ ?_;simp only [Tryz.ntmps250,Tryz.results250,Ah,Bm,Ab,Bd,A1,Bc,Bf,A0,Ch,Ca,Lf,A9,Aj,Cg,Ag,Ae,A3,Cf,Bv,Bi,Bz,Bx,A4,B6,Bh,Az,A5,Cl,Ad,Ac,argW,List.map_cons,List.map_nil,List.append_nil,List.flatMap_cons,List.flatMap_nil,Nat.reduceLT,Nat.reduceEqDiff,Nat.reduceAdd,Cc,Bw,↓reduceIte,reduceCtorEq,Nat.zero_add])
  (repeat' (first | (refine iteI (fun h=>?_) (fun h=>?_))|(refine B1 (by first | omega | (simp (disch:=omega) only [Aa,Ak,Ai] at *;omega)) ?_;intro b hb)|(refine And.intro (by first | omega | (simp (disch:=omega) only [Aa,Ak,Ai] at *;omega)) ?_)|((first | (refine Ba hm (by rfl) (by kernel_rfl) ?_)|(refine Det.use (hc) ?_)|(refine Det.useQ (hc) ?_)|(refine Er.use (hc) ?_)|(refine Dp.use (hc) ?_)|(refine Det.use (Jhd _ s _ _ (by omega)) ?_)|(refine Det.useQ (Jhd _ s _ _ (by omega)) ?_));simp only [Ah,Bm,Br,Cn,Ab,B3,Bd,A1,Bc,Ct,Bf,A0,Ch,F6,Lf,A9,Aj,B8,Ek,Cg,Bl,Bq,Xc,Joy,Mf,Bt,Ar,G8,Eb,Ag,Ae,A3,Cf,Bv,Bi,Bz,Bx,A4,Bp,B6,Et,Bh,Az,A5,Bs,Cs,Cr,A6,A7,B9,Av,Ap,Al,B7,B5,Af,Am,Ao,Cy,Ay,Cl,A2,Ad,Ac,List.map_cons,List.map_nil,List.append_nil,List.flatMap_cons,List.flatMap_nil,List.getElem?_cons_zero,List.getElem?_cons_succ,Nat.reduceLT,Nat.reduceEqDiff,and_true,Cc,Bw,↓reduceIte,reduceCtorEq,Bool.not_false,Bool.and_true,Bool.or_true,Xn])|(exact True.intro)|(exfalso;omega)))
  rfl
theorem Qj (s:List UInt8) (c:Int):Det cx 111 [.p (.str s),.p (.int .u8 c)] [] (.p (.int .i64 (Lib.indexByte s c.toNat.toUInt8))) []:=by
 refine Det.of_below (v:=.int .i64 (Lib.indexByte s c.toNat.toUInt8)) (enters_of Tryz.func111 (by kernel_rfl) rfl) rfl (fun _ _ _=>.int _ _) fun β Im w vs hg hf=>?_
 obtain ⟨v,u,rfl,hv,hu⟩:=fit2 hf
 have:=V7 hv;subst this
 have:=Yc hu;subst this
 exact (Tryz.strings_IndexByte ⟨⟨s⟩⟩ c w).mono fun e w' ⟨he,hw⟩=>⟨he,hw ▸ Below.refl _ _⟩
def Wv (s:List UInt8):Nat×Nat:=if s.length=0 then (65533,0) else dec s 0
theorem L2 (s:List UInt8):Det cx 176 [.p (.str s)] [] (.tup [.int .i32 (Wv s).1,.int .i64 (Wv s).2]) []:=by
 refine Det.of_below (v:=.tuple #[.int .i32 (Wv s).1,.int .i64 (Wv s).2]) (enters_of Tryz.func176 (by kernel_rfl) rfl) rfl (fun β w Im=>⟨[.int .i32 (Wv s).1,.int .i64 (Wv s).2],rfl,rfl,fun i x p hi hp=>?_⟩) fun β Im w vs hg hf=>?_
 ·rcases i with _ | _ | i <;> simp at hi hp
  ·subst hi hp;exact .int _ _
  ·subst hi hp;exact .int _ _
 ·obtain ⟨v,rfl,hv⟩:=fit1 hf
  have:=V7 hv;subst this
  exact (Tryz.utf8_DecodeRuneInString ⟨⟨s⟩⟩ w (Jnf hg).tabs).mono fun e w' ⟨he,hb⟩=>⟨he,hb⟩
theorem Ut (s p:List UInt8) (hs:s.length≤1000000) (hp:p.length≤1000000):Det cx 110 [.p (.str s),.p (.str p)] [] (.p (.bool (s.take p.length == p))) []:=by
 (refine B2.of_code (X:=cx) false [] (by simp) Tryz.func110 (by kernel_rfl) rfl (by simp only [List.length_cons,List.length_nil,Tryz.ntmps110];decide) (by simp) ?_;refine Ax hm _ _ _ ?_;simp only [Tryz.ntmps110,Tryz.results110,Ah,Bm,Cn,Ab,Bd,A1,Da,Bc,D9,Bf,A0,Cw,A9,Aj,B8,D0,E7,Dw,C2,Dq,Db,Dn,Au,Ep,Ar,Lc,Nh,Ds,Dl,Ev,D5,E2,Jp3,Gf,Ag,Ae,A3,Bs,Cs,Cr,A6,A7,B9,Av,Ap,Al,B7,B5,Af,Am,Ao,Co,Ay,A2,Ad,Ac,argW,List.map_cons,List.map_nil,List.getD_cons_zero,List.getD_cons_succ,decide_eq_true_eq,Nat.reduceLT,Nat.reduceEqDiff,true_and,and_true,Cc,↓reduceIte,reduceCtorEq,Int.toNat_natCast,Int.natCast_nonneg,Nat.zero_add,L.p.injEq,PV.bool.injEq,Bool.false_eq_true,Bool.true_and,Bool.and_true,Bool.or_false,and_self,Hi])
 (repeat' (first | (refine iteI (fun h=>?_) (fun h=>?_))|(refine B1 (by first | omega | (simp (disch:=omega) only [Aa,Ak,Ai] at *;omega)) ?_;intro b hb)|(refine And.intro (by first | omega | (simp (disch:=omega) only [Aa,Ak,Ai] at *;omega)) ?_)|((first | (refine Ba hm (by rfl) (by kernel_rfl) ?_));simp only [Dh])|(exact True.intro)|(exfalso;omega)))
 ·exact h
 ·symm
  rw [beq_eq_false_iff_ne]
  intro e
  have:=congrArg List.length e
  simp at this
  omega
theorem G4 (s p:List UInt8) (hs:s.length≤1000000) (hp:p.length≤1000000):Det cx 48 [.p (.str s),.p (.str p)] [] (.p (.bool (s.take p.length == p))) []:=by
 (refine B2.of_code (X:=cx) false [] (by simp) Tryz.func48 (by kernel_rfl) rfl (by simp only [List.length_cons,List.length_nil,Tryz.ntmps48];decide) (by simp) ?_;refine Ax hm _ _ _ ?_;simp only [Tryz.ntmps48,Tryz.results48,Ah,Bm,Ab,Bd,A1,Bc,Bf,A0,Ch,Cw,A9,Aj,Cg,Ag,Ae,A3,Cf,Bv,Bi,Bz,Bx,A4,B6,Bh,Az,A5,Cl,Ad,Ac,argW,List.map_cons,List.map_nil,List.append_nil,List.flatMap_cons,List.flatMap_nil,Nat.reduceLT,Nat.reduceEqDiff,Cc,Bw,↓reduceIte,reduceCtorEq,Nat.zero_add])
 (repeat' (first | (refine iteI (fun h=>?_) (fun h=>?_))|(refine B1 (by first | omega | (simp (disch:=omega) only [Aa,Ak,Ai] at *;omega)) ?_;intro b hb)|(refine And.intro (by first | omega | (simp (disch:=omega) only [Aa,Ak,Ai] at *;omega)) ?_)|((first | (refine Ba hm (by rfl) (by kernel_rfl) ?_)|(refine Det.use (Ut s p hs hp) ?_)|(refine Det.useQ (Ut s p hs hp) ?_));simp only [Cn,Ab,Bd,A1,Bc,Ct,Bf,Aj,Ag,Ae,A3,Bp,B6,Bs,Cs,Cr,A6,A7,B9,Av,Ap,Al,B7,B5,Af,Am,Ao,Co,Ay,A2,Ad,Ac,Nat.reduceLT,↓reduceIte,and_self])|(exact True.intro)|(exfalso;omega)))
theorem Jnt (r:Int):(Utf8.encode r).data.toList=utf r:=by
 have ho:∀ n:Nat,u8of (n:Int)=UInt8.ofNat n:=fun n=>by
  unfold u8of
  apply UInt8.toNat_inj.1
  simp
  omega
 unfold Utf8.encode
 simp only [Utf8.valid,Bool.or_eq_true,Bool.and_eq_true,decide_eq_true_eq,Utf8.runeError]
 by_cases hv:(0≤r∧r<55296)∨(57344≤r∧r≤1114111)
 ·obtain ⟨n,rfl⟩:=Int.eq_ofNat_of_zero_le (a:=r) (by omega)
  rw [if_pos hv]
  simp only [Int.toNat_natCast]
  by_cases c1:n<128
  ·rw [if_pos c1,utf,Vv (by omega)]
   simp [ho]
  by_cases c2:n<2048
  ·rw [if_neg c1,if_pos c2,utf,Xa (by omega)]
   simp only [List.map_cons,List.map_nil]
   rw [show (192:Int)+(n:Int) / 64=((192+n / 64:Nat):Int) by omega,show (128:Int)+(n:Int) % 64=((128+n % 64:Nat):Int) by omega,ho,ho]
  by_cases c3:n<65536
  ·rw [if_neg c1,if_neg c2,if_pos c3,utf,Xm (by omega)]
   simp only [List.map_cons,List.map_nil]
   rw [show (224:Int)+(n:Int) / 4096=((224+n / 4096:Nat):Int) by omega,show (128:Int)+(n:Int) / 64 % 64=((128+n / 64 % 64:Nat):Int) by omega,show (128:Int)+(n:Int) % 64=((128+n % 64:Nat):Int) by omega,ho,ho,ho]
  ·rw [if_neg c1,if_neg c2,if_neg c3,utf,Xr (by omega)]
   simp only [List.map_cons,List.map_nil]
   rw [show (240:Int)+(n:Int) / 262144=((240+n / 262144:Nat):Int) by omega,show (128:Int)+(n:Int) / 4096 % 64=((128+n / 4096 % 64:Nat):Int) by omega,show (128:Int)+(n:Int) / 64 % 64=((128+n / 64 % 64:Nat):Int) by omega,show (128:Int)+(n:Int) % 64=((128+n % 64:Nat):Int) by omega,ho,ho,ho,ho]
 ·rw [if_neg hv,utf,Ji0 (by omega)]
  rfl
def N4:List UInt8:=[43,45,95]
theorem Jra (k:Nat):at_ N4 k≤95:=by
 match k with
 | 0=>decide
 | 1=>decide
 | 2=>decide
 | k+3=>rw [at_out (by simp [N4])];decide
theorem Jr8 {r:Int} (h:128≤r):2≤(utf r).length∧128≤at_ (utf r) ((utf r).length - 1):=by
 have key:∀ l:List Int,utfC r=l→(∀ c∈l,128≤c∧c<256)→l≠[]→128≤at_ (utf r) ((utf r).length - 1):=by
  intro l e hl hne
  rw [utf,e]
  have hlen:(l.map u8of).length - 1<l.length:=by
   have:=List.length_pos_iff.2 hne
   simp;omega
  rw [Jfg (by simpa using hlen)]
  simp only [List.getElem_map]
  have:=hl _ (List.getElem_mem hlen)
  have:=J4 (c:=l[(l.map u8of).length - 1]) (by omega) (by omega)
  omega
 unfold utf at *
 by_cases c2:r<2048
 ·have e:=Xa (r:=r) (by omega)
  refine ⟨by rw [e];simp,key _ e ?_ (by simp)⟩
  simp;omega
 by_cases c3:(2048≤r∧r<55296)∨(57343<r∧r<65536)
 ·have e:=Xm (r:=r) (by omega)
  refine ⟨by rw [e];simp,key _ e ?_ (by simp)⟩
  simp;omega
 by_cases c4:65536≤r∧r≤1114111
 ·have e:=Xr (r:=r) (by omega)
  refine ⟨by rw [e];simp,key _ e ?_ (by simp)⟩
  simp;omega
 ·have e:=Ji0 (r:=r) (by omega)
  refine ⟨by rw [e];simp,key _ e ?_ (by simp)⟩
  simp
theorem indexByte_none {l:List UInt8} {c:Int} (h0:128≤c) (h1:c<256) (h:∀ x∈l,x.toNat<128):Lib.indexByte l c.toNat.toUInt8 = -1:=by
 have hc:l.contains c.toNat.toUInt8=false:=by
  rw [List.contains_eq_mem,decide_eq_false_iff_not]
  intro hm
  have:=h _ hm
  simp at this
  omega
 have e:=Lib.contains_iff_indexByte l c.toNat.toUInt8
 rw [hc] at e
 have hlt:¬ 0≤Lib.indexByte l c.toNat.toUInt8:=by simpa using e.symm
 have:=Lib.indexByte_ge l c.toNat.toUInt8
 omega
def irv (r:Int):Int:=if r<128 then Lib.indexByte N4 r.toNat.toUInt8 else -1
theorem R9 (r:Int) (h:Kq r):Det cx 297 [.p (.int .i32 r)] [] (.p (.bool true)) []:=by
 unfold Kq at h
 (refine B2.of_code (X:=cx) false [] (by simp) Tryz.func297 (by kernel_rfl) rfl (by simp only [List.length_cons,List.length_nil,Tryz.ntmps297];decide) (by simp) ?_;refine Ax hm _ _ _ ?_;simp only [Tryz.ntmps297,Tryz.results297,Cb,Ah,Bm,Br,Ce,Cn,Ab,B3,Bk,Ea,Bd,A1,Da,Bc,D9,Bf,A0,Cw,Ca,A9,Aj,B8,D0,Bq,C2,Dq,Db,Dn,Au,Bt,Ar,Dm,Pr,Ag,Ae,A3,Bs,Cs,Cr,A6,A7,B9,Av,Ap,Al,B7,B5,Af,Am,Ao,Co,Ay,A2,Ad,Ac,argW,List.map_cons,List.map_nil,List.getD_cons_zero,List.getD_cons_succ,decide_eq_true_eq,Nat.reduceLT,Nat.reduceEqDiff,and_true,Cc,↓reduceIte,reduceCtorEq,L.p.injEq,PV.bool.injEq,Bool.false_eq_true,Bool.and_true,Bool.or_false,Bool.or_true,and_self])
 (repeat' (first | (refine iteI (fun h=>?_) (fun h=>?_))|(refine B1 (by first | omega | (simp (disch:=omega) only [Aa,Ak,Ai] at *;omega)) ?_;intro b hb)|(refine And.intro (by first | omega | (simp (disch:=omega) only [Aa,Ak,Ai] at *;omega)) ?_)|((first | (refine Ba hm (by rfl) (by kernel_rfl) ?_));simp only [Dh])|(exact True.intro)|(exfalso;omega)))
theorem Ri:N4.length=3:=rfl
theorem pd0:Utf8.decode ⟨⟨N4⟩⟩ 0=(43,1):=by decide
theorem pd1:Utf8.decode ⟨⟨N4⟩⟩ 1=(45,1):=by decide
theorem pd2:Utf8.decode ⟨⟨N4⟩⟩ 2=(95,1):=by decide
theorem Jbz (r:Int) (hr:Kq r) (h1:128≤r) (h2:r≠65533):Det cx 283 [.p (.str N4),.p (.int .i32 r)] [] (.p (.int .i64 (-1))) []:=by
 have h':=hr
 unfold Kq at h'
 obtain ⟨g1,g2⟩:=Jr8 (r:=r) h1
 have g3:=Nd (utf r) ((utf r).length - 1)
 have g4:=Zj r
 have g5:=Jra ((utf r).length - 1)
 obtain ⟨k,hk⟩:∃ k,(utf r).length=k+1:=⟨(utf r).length - 1,by omega⟩
 rw [hk,Nat.add_sub_cancel] at g2 g3 g5
 have hw:IntKind.i64.wrap (((k+1:Nat):Int) - 1)=(k:Int):=by rw [Aa (by omega) (by omega)];omega
 have hw2:IntKind.i64.wrap ((k:Int)+1)=((k+1:Nat):Int):=by rw [Aa (by omega) (by omega)];omega
 have hib:Lib.indexByte (N4.drop (k+1)) (at_ (utf r) k:Int).toNat.toUInt8 = -1:=indexByte_none (by omega) (by omega) fun x hx=>by
  exact (by decide:∀ x∈N4,x.toNat<128) x (List.mem_of_mem_drop hx)
 skip
 (refine B2.of_code (X:=cx) false [] (by simp) Tryz.func283 (by kernel_rfl) rfl (by simp only [List.length_cons,List.length_nil,Tryz.ntmps283];decide) (by simp) ?_;refine Ax hm _ _ _ ?_;simp only [Tryz.ntmps283,Tryz.results283,Ah,Bm,Br,Ce,He,Ab,Bd,A1,Da,Bc,D9,Ct,Bf,A0,Ch,Cw,Ca,A9,Aj,B8,Kb,D0,Cg,V1,Bq,C2,Dq,Db,Dn,Au,Bt,Ar,G0,Dm,Pr,L4,Hz,Kl,Hn,Cu,Ag,Ae,A3,Cf,Bv,Bi,Bz,Bx,A4,B6,Bh,Az,A5,Wf,Vi,B4,Ez,Ks,Cl,Ad,Ac,Bn,Bg,Bb,argW,List.map_cons,List.map_nil,List.getD_cons_zero,List.getD_cons_succ,List.append_nil,List.flatMap_cons,List.flatMap_nil,decide_eq_true_eq,beq_iff_eq,Nat.reduceLT,Nat.reduceEqDiff,Int.reduceNeg,true_and,Cc,Bw,↓reduceIte,reduceCtorEq,Nat.zero_add,Bool.false_eq_true,Bool.true_and,Bool.or_false,Bool.or_true,Qs,Hi,Q0])
 (repeat' (first | (refine iteI (fun h=>?_) (fun h=>?_))|(refine B1 (by first | omega | (simp (disch:=omega) only [Aa,Ak,Ai] at *;omega)) ?_;intro b hb)|(refine And.intro (by first | omega | (simp (disch:=omega) only [Aa,Ak,Ai] at *;omega)) ?_)|((first | (refine Ba hm (by rfl) (by kernel_rfl) ?_)|(refine Det.use (R9 r hr) ?_)|(refine Det.useQ (R9 r hr) ?_));simp only [Dh,Ah,Bm,Br,Ce,He,Ab,Bd,A1,Bc,Ct,Bf,A0,Ca,A9,Aj,B8,N7,Kb,Dw,Bq,Au,Bt,Ar,M5,J7,L4,Hz,Kl,U1,Ds,Dl,Ag,Ae,A3,Bp,B6,Ad,Ac,List.map_cons,List.map_nil,Nat.reduceLT,Nat.reduceEqDiff,Int.reduceNeg,Cc,↓reduceIte,reduceCtorEq,Bool.not_true,Bool.false_eq_true,Bool.or_true,Hi,Q0,Jnt,hk,hw])|(exact True.intro)|(exfalso;omega)))
 (refine SWP.rounds 2 ?_;refine SWP.roundI hm ?_;simp only [Dh,Cb,Ah,Bm,Br,Ce,Eh,Cn,Ab,Ci,B3,B0,Ea,Bd,A1,Bc,Bf,A0,Ca,A9,Aj,B8,Dw,Ja,Bq,Au,Ar,Dm,Ds,Dl,Ag,Ae,A3,Bs,Cs,Cr,A6,A7,B9,Av,Ap,Al,B7,B5,Af,Am,Ao,Co,Ay,A2,Jeh,Ad,Ac,List.map_cons,List.map_nil,decide_eq_true_eq,Nat.reduceLT,Nat.reduceEqDiff,Int.reduceNeg,Cc,↓reduceIte,reduceCtorEq,Bool.or_false,and_self,Hi,Ri])
 (repeat' (first | (refine iteI (fun h=>?_) (fun h=>?_))|(refine B1 (by first | omega | (simp (disch:=omega) only [Aa,Ak,Ai] at *;omega)) ?_;intro b hb)|(refine And.intro (by first | omega | (simp (disch:=omega) only [Aa,Ak,Ai] at *;omega)) ?_)|((first | (refine Ba hm (by rfl) (by kernel_rfl) ?_)|(refine Det.use (Qj _ _) ?_)|(refine Det.useQ (Qj _ _) ?_));simp only [Cb,Ah,Bm,Br,Ce,He,Cn,Ab,B3,Ea,Bd,A1,Mv,Kf,Bc,Bf,A0,Ca,A9,Aj,B8,Jn,S1,M7,Xw,Pn,Ot,Ja,Bq,Au,Bt,Ar,E8,Kx,Dm,Ib,Hf,Ev,D5,E2,H4,Ag,Ae,A3,Bs,Cs,Cr,A6,A7,B9,Av,Ap,Al,B7,B5,Af,Am,Ao,Co,Ay,A2,Jkx,Ad,Ac,List.map_cons,List.map_nil,decide_eq_true_eq,bne_iff_ne,ne_eq,Nat.reduceLT,Nat.reduceEqDiff,Int.reduceNeg,true_and,Cc,↓reduceIte,reduceCtorEq,Int.toNat_natCast,Int.natCast_nonneg,Bool.true_and,Bool.or_false,Bool.or_true,and_self,Hi,Ri,hk,hw2])|(exact True.intro)|(exfalso;omega)))
 ·simp only [Int.toNat_natCast] at hib
  omega
theorem Jbu (r:Int) (hr:Kq r):Det cx 283 [.p (.str N4),.p (.int .i32 r)] [] (.p (.int .i64 (irv r))) []:=by
 have h':=hr
 unfold Kq at h'
 by_cases hb:128≤r∧r≠65533
 ·rw [show irv r = -1 by simp only [irv,if_neg (show ¬ r<128 by omega)]]
  exact Jbz r hr hb.1 hb.2
 skip
 (refine B2.of_code (X:=cx) false [] (by simp) Tryz.func283 (by kernel_rfl) rfl (by simp only [List.length_cons,List.length_nil,Tryz.ntmps283];decide) (by simp) ?_;refine Ax hm _ _ _ ?_;simp only [Tryz.ntmps283,Tryz.results283,Ah,Bm,Br,Ce,He,Ab,Bd,A1,Da,Bc,D9,Ct,Bf,A0,Ch,Cw,Ca,A9,Aj,B8,Kb,D0,Cg,V1,Bq,C2,Dq,Db,Dn,Au,Bt,Ar,G0,Dm,Pr,L4,Hz,Kl,Hn,Cu,Ag,Ae,A3,Cf,Bv,Bi,Bz,Bx,A4,B6,Bh,Az,A5,Wf,Vi,B4,Ez,Ks,Cl,Ad,Ac,Bn,Bg,Bb,argW,List.map_cons,List.map_nil,List.getD_cons_zero,List.getD_cons_succ,List.append_nil,List.flatMap_cons,List.flatMap_nil,decide_eq_true_eq,beq_iff_eq,Nat.reduceLT,Nat.reduceEqDiff,Int.reduceNeg,true_and,Cc,Bw,↓reduceIte,reduceCtorEq,Nat.zero_add,Bool.false_eq_true,Bool.true_and,Bool.or_false,Bool.or_true,Qs,Hi,Q0])
 (repeat' (first | (refine iteI (fun h=>?_) (fun h=>?_))|(refine B1 (by first | omega | (simp (disch:=omega) only [Aa,Ak,Ai] at *;omega)) ?_;intro b hb)|(refine And.intro (by first | omega | (simp (disch:=omega) only [Aa,Ak,Ai] at *;omega)) ?_)|((first | (refine Ba hm (by rfl) (by kernel_rfl) ?_)|(refine Det.use (R9 r hr) ?_)|(refine Det.useQ (R9 r hr) ?_)|(refine Det.use (Qj _ _) ?_)|(refine Det.useQ (Qj _ _) ?_));simp only [Dh,Ah,Bm,Br,Ce,He,Cn,Ab,Ea,Bd,A1,Bc,Ct,Bf,A0,Ca,A9,Aj,B8,N7,Kb,Dw,Bq,Au,Bt,Ar,M5,J7,L4,Hz,Kl,U1,Ds,Dl,Ag,Ae,A3,Bp,B6,Bs,Cs,Cr,A6,A7,B9,Av,Ap,Al,B7,B5,Af,Am,Ao,Co,Ay,A2,Ad,Ac,List.map_cons,List.map_nil,Nat.reduceLT,Nat.reduceEqDiff,Int.reduceNeg,true_and,and_true,Cc,↓reduceIte,reduceCtorEq,Bool.not_true,L.p.injEq,PV.int.injEq,Bool.false_eq_true,Bool.true_and,Bool.and_true,Bool.or_true,Hi,Q0])|(exact True.intro)|(exfalso;omega)))
 ·rw [Ak (by omega) (by omega)];simp only [irv,if_pos (show r<128 by omega)]
 ·(refine SWP.rounds 4 ?_;refine SWP.roundI hm ?_;simp only [Cb,Ah,Bm,Br,Ce,Cn,Ab,B3,Bk,Ea,Bd,A1,Bc,Bf,A0,Ca,A9,Aj,B8,Ek,Vl,Bl,Bq,Au,Bt,Ar,G0,G8,Eb,Ag,Ae,A3,Vo,Ty,Jew,Bs,Cs,Cr,A6,A7,B9,Av,Ap,Al,B7,B5,Af,Am,Ao,Co,Ay,Aw,Cp,A2,Jf1,Jkx,Ad,Ac,List.map_cons,List.map_nil,List.getElem?_cons_zero,List.getElem?_cons_succ,beq_iff_eq,Nat.reduceLT,Nat.reduceEqDiff,Int.reduceNeg,true_and,and_true,Cc,↓reduceIte,Nat.zero_add,L.p.injEq,PV.int.injEq,Bool.true_and,Bool.and_true,Bool.or_true,pd0,Ri])
  (repeat' (first | (refine iteI (fun h=>?_) (fun h=>?_))|(refine B1 (by first | omega | (simp (disch:=omega) only [Aa,Ak,Ai] at *;omega)) ?_;intro b hb)|(refine And.intro (by first | omega | (simp (disch:=omega) only [Aa,Ak,Ai] at *;omega)) ?_)|((first | (refine Ba hm (by rfl) (by kernel_rfl) ?_));simp only [Dh])|(refine SWP.roundI hm ?_;simp only [Cb,Ah,Bm,Br,Ce,Eh,Cn,Ab,Ci,B3,Bk,B0,Ea,Bd,A1,Bc,Bf,A0,Ca,A9,Aj,B8,Ek,Vl,Bl,Bq,Au,Bt,Ar,G0,G8,Eb,Ag,Ae,A3,Vo,Ty,Jew,Bs,Cs,Cr,A6,A7,B9,Av,Ap,Al,B7,B5,Af,Am,Ao,Co,Ay,Aw,Cp,A2,Jf1,Jeh,Jkx,Ad,Ac,List.map_cons,List.map_nil,List.getElem?_cons_zero,List.getElem?_cons_succ,beq_iff_eq,Nat.reduceLT,Nat.reduceEqDiff,Nat.reduceAdd,Int.reduceNeg,true_and,and_true,Cc,↓reduceIte,L.p.injEq,PV.int.injEq,Bool.false_eq_true,Bool.true_and,Bool.and_true,Bool.or_true,pd1,pd2,Ri])|(exact True.intro)|(exfalso;omega)))
  simp only [irv,if_neg (show ¬ r<128 by omega)]
 all_goals (exfalso;omega)
def iaF (s:List UInt8):Nat→Nat→Int
 | 0,_=>-1
 | f+1,i=>if i<s.length then (if 0≤irv (dec s i).1 then (i:Int) else iaF s f (i+(dec s i).2)) else -1
theorem Jo0 (n:Int) (hn:n≤8):Det cx 284 [.p (.int .i64 n)] [] (.p (.bool false)) []:=by
 (refine B2.of_code (X:=cx) false [] (by simp) Tryz.func284 (by kernel_rfl) rfl (by simp only [List.length_cons,List.length_nil,Tryz.ntmps284];decide) (by simp) ?_;refine Ax hm _ _ _ ?_;simp only [Tryz.ntmps284,Tryz.results284,Ah,Bm,Cn,Ab,Bd,A1,Bc,Bf,A0,Cw,Ca,A9,Aj,B8,Au,Bt,Ar,Je,Ag,Ae,A3,Bs,Cs,Cr,A6,A7,B9,Av,Ap,Al,B7,B5,Af,Am,Ao,Co,Ay,A2,Ad,Ac,argW,List.map_cons,List.map_nil,decide_eq_false_iff_not,Int.not_lt,Nat.reduceLT,and_true,Cc,↓reduceIte,reduceCtorEq,L.p.injEq,PV.bool.injEq,Bool.and_true,Bool.or_true])
 (repeat' (first | (refine iteI (fun h=>?_) (fun h=>?_))|(refine B1 (by first | omega | (simp (disch:=omega) only [Aa,Ak,Ai] at *;omega)) ?_;intro b hb)|(refine And.intro (by first | omega | (simp (disch:=omega) only [Aa,Ak,Ai] at *;omega)) ?_)|((first | (refine Ba hm (by rfl) (by kernel_rfl) ?_));simp only [Dh])|(exact True.intro)|(exfalso;omega)))
 exact hn
theorem Jc1 (s:List UInt8) (i:Nat):Kq (dec s i).1:=by
 rw [Qd]
 split
 ·right;decide
 ·rename_i h;exact Qf h
theorem dec_pos (s:List UInt8) (i:Nat):1≤(dec s i).2:=by
 rw [Qd]
 split
 ·decide
 ·simp only;omega
theorem Yl (s:List UInt8) (i:Nat):Utf8.decode ⟨⟨s⟩⟩ i=dec s i:=rfl
theorem Je9 (s:List UInt8) (hs:s.length=4):Det cx 266 [.p (.str s),.p (.str N4)] [] (.p (.int .i64 (iaF s 5 0))) []:=by
 skip
 (refine B2.of_code (X:=cx) false [] (by simp) Tryz.func266 (by kernel_rfl) rfl (by simp only [List.length_cons,List.length_nil,Tryz.ntmps266];decide) (by simp) ?_;refine Ax hm _ _ _ ?_;simp only [Tryz.ntmps266,Tryz.results266,Cb,Ah,Bm,Br,Ab,Bd,A1,Bc,Bf,A0,Ch,Ca,F6,A9,Aj,B8,Kb,I7,Dw,Cg,Bq,Au,Ep,Bt,Ar,G0,Lc,Nh,L4,Hz,Kl,Hn,Ds,Dl,Ib,Hf,Ag,Ae,A3,Cf,Bv,Bi,Bz,Bx,A4,B6,Bh,Az,A5,Cl,Ad,Ac,argW,List.map_cons,List.map_nil,List.append_nil,List.flatMap_cons,List.flatMap_nil,decide_eq_true_eq,beq_iff_eq,Nat.reduceLT,Nat.reduceEqDiff,Int.reduceToNat,Int.reduceLE,Int.reduceNeg,true_and,Cc,Bw,↓reduceIte,reduceCtorEq,Nat.zero_add,Ai,Bool.true_and,Bool.or_true,Qs,Hi,Q0,Ri])
 (repeat' (first | (refine iteI (fun h=>?_) (fun h=>?_))|(refine B1 (by first | omega | (simp (disch:=omega) only [Aa,Ak,Ai] at *;omega)) ?_;intro b hb)|(refine And.intro (by first | omega | (simp (disch:=omega) only [Aa,Ak,Ai] at *;omega)) ?_)|((first | (refine Ba hm (by rfl) (by kernel_rfl) ?_)|(refine Det.use (Jo0 _ (by omega)) ?_)|(refine Det.useQ (Jo0 _ (by omega)) ?_));simp only [Cb,Ah,Bm,Br,Ce,He,Ab,Bd,A1,Bc,Ct,Bf,A9,V1,Bq,Cu,Bp,B6,Wf,Vi,B4,Ez,Ad,Ac,Bn,Bg,Bb,List.map_cons,List.map_nil,Nat.reduceLT,Int.reduceNeg,true_and,Cc,↓reduceIte,reduceCtorEq,Bool.false_eq_true,Bool.true_and,Hi])|(exact True.intro)|(exfalso;omega)))
 refine SWP.loop (fun x:Nat×Nat=>⟨Fp 55 [(0,.p (.str s)),(1,.p (.str N4)),(45,.ptr 45 0 0)],[(45,.obj (.sit s x.1))]⟩) (fun x=>5≤x.1+x.2∧iaF s x.2 x.1=iaF s 5 0) (fun x=>4 - x.1) (0,5) (St.le_slots (by simp only [Cd,Ck,Ac,Be,Aq,Nat.reduceEqDiff,reduceIte,Nat.reduceLT,Nat.reduceLeDiff];simp (disch:=omega) [Aq,A8,Cm,Aa] <;> (repeat' apply And.intro) <;> omega) (by simp (disch:=omega) [Dc,Ee,C9,Bj,Aq,A8,Cm,Aa]) (by simp [De])) ⟨by omega,rfl⟩ ?_
 rintro ⟨i,f⟩ ⟨h1,h2⟩
 simp only at h1 h2
 have hp:=dec_pos s i
 (refine Ax hm _ _ _ ?_;simp only [Cb,Ah,Bm,Br,Ce,Eh,Cn,Ab,Ci,B0,Bd,A1,Bc,Bf,A0,Ch,Ca,A9,Aj,Ek,Cg,Vl,Bl,Bq,G8,Eb,Ag,Ae,A3,Cf,Bv,Bi,Bz,Bx,A4,B6,Bh,Az,A5,Vo,Ty,Jew,Bs,Cs,Cr,A6,A7,B9,Av,Ap,Al,B7,B5,Af,Am,Ao,Co,Ay,Aw,Cp,Cl,A2,Ad,Ac,Dy,List.map_cons,List.map_nil,List.append_nil,List.flatMap_cons,List.flatMap_nil,List.getElem?_cons_zero,List.getElem?_cons_succ,Nat.reduceLT,Nat.reduceEqDiff,Int.reduceNeg,true_and,and_true,Bw,↓reduceIte,reduceCtorEq,L.p.injEq,PV.int.injEq,Bool.false_eq_true,Bool.true_and,Bool.and_true,Yl])
 (repeat' (first | (refine iteI (fun h=>?_) (fun h=>?_))|(refine B1 (by first | omega | (simp (disch:=omega) only [Aa,Ak,Ai] at *;omega)) ?_;intro b hb)|(refine And.intro (by first | omega | (simp (disch:=omega) only [Aa,Ak,Ai] at *;omega)) ?_)|((first | (refine Ba hm (by rfl) (by kernel_rfl) ?_)|(refine Det.use (Jbu _ (Jc1 s i)) ?_)|(refine Det.useQ (Jbu _ (Jc1 s i)) ?_));simp only [Cb,Ah,Bm,Br,Cn,Ab,B3,Bk,Ea,Bd,A1,Bc,Ct,Bf,A0,Ca,A9,Aj,B8,Bq,Au,Bt,Ar,Lc,Ag,Ae,A3,Bp,B6,Bs,Cs,Cr,A6,A7,B9,Av,Ap,Al,B7,B5,Af,Am,Ao,Co,Ay,Aw,A2,Ad,Ac,Dy,List.map_cons,List.map_nil,decide_eq_true_eq,Nat.reduceLT,Nat.reduceEqDiff,Int.reduceNeg,true_and,and_true,Cc,↓reduceIte,L.p.injEq,PV.int.injEq,Bool.true_and,Bool.and_true,Bool.or_true])|(exact True.intro)|(exfalso;omega)))
 ·obtain ⟨g,rfl⟩:∃ g,f=g+1:=⟨f - 1,by omega⟩
  rw [← h2,iaF,if_pos (by omega),if_pos (by assumption)]
 ·obtain ⟨g,rfl⟩:∃ g,f=g+1:=⟨f - 1,by omega⟩
  refine ⟨(i+(dec s i).2,g),⟨by simp only;omega,?_⟩,by simp only;omega,(St.le_slots (by simp only [Cd,Ck,Ac,Be,Aq,Nat.reduceEqDiff,reduceIte,Nat.reduceLT,Nat.reduceLeDiff];simp (disch:=omega) [Aq,A8,Cm,Aa] <;> (repeat' apply And.intro) <;> omega) (by simp (disch:=omega) [Dc,Ee,C9,Bj,Aq,A8,Cm,Aa]) (by simp [De]))⟩
  simp only
  rw [← h2,show iaF s (g+1) i=iaF s g (i+(dec s i).2) from by rw [iaF,if_pos (by omega),if_neg (by assumption)]]
 ·rw [← h2]
  cases f with
  | zero=>rfl
  | succ g=>rw [iaF,if_neg (by omega)]
theorem Jfp (s:List UInt8) (hs:s.length=4):Det cx 249 [.p (.str s),.p (.str N4)] [] (.p (.bool (decide (0≤iaF s 5 0)))) []:=by
 (refine B2.of_code (X:=cx) false [] (by simp) Tryz.func249 (by kernel_rfl) rfl (by simp only [List.length_cons,List.length_nil,Tryz.ntmps249];decide) (by simp) ?_;refine Ax hm _ _ _ ?_;simp only [Tryz.ntmps249,Tryz.results249,Ah,Bm,Ab,Bd,A1,Bc,Bf,A0,Ch,Cw,A9,Aj,Cg,Ag,Ae,A3,Cf,Bv,Bi,Bz,Bx,A4,B6,Bh,Az,A5,Cl,Ad,Ac,argW,List.map_cons,List.map_nil,List.append_nil,List.flatMap_cons,List.flatMap_nil,Nat.reduceLT,Nat.reduceEqDiff,Cc,Bw,↓reduceIte,reduceCtorEq,Nat.zero_add])
 (repeat' (first | (refine iteI (fun h=>?_) (fun h=>?_))|(refine B1 (by first | omega | (simp (disch:=omega) only [Aa,Ak,Ai] at *;omega)) ?_;intro b hb)|(refine And.intro (by first | omega | (simp (disch:=omega) only [Aa,Ak,Ai] at *;omega)) ?_)|((first | (refine Ba hm (by rfl) (by kernel_rfl) ?_)|(refine Det.use (Je9 s hs) ?_)|(refine Det.useQ (Je9 s hs) ?_));simp only [Cn,Ab,Bd,A1,Bc,Ct,Bf,A0,Ca,Aj,B8,Au,Bt,Ar,Lc,Ag,Ae,A3,Bp,B6,Bs,Cs,Cr,A6,A7,B9,Av,Ap,Al,B7,B5,Af,Am,Ao,Co,Ay,A2,Ad,Ac,Nat.reduceLT,Cc,↓reduceIte,Bool.or_true,and_self])|(exact True.intro)|(exfalso;omega)))
theorem Js0 {r:Int} (h0:0≤r) (h:0≤irv r):r=43∨r=45∨r=95:=by
 unfold irv at h
 split at h
 ·have e:=Lib.contains_iff_indexByte N4 r.toNat.toUInt8
  rw [decide_eq_true h,List.contains_eq_mem,decide_eq_true_eq] at e
  simp only [N4,List.mem_cons,List.not_mem_nil,or_false] at e
  rcases e with e | e | e
  ·have:=congrArg UInt8.toNat e;simp at this;omega
  ·have:=congrArg UInt8.toNat e;simp at this;omega
  ·have:=congrArg UInt8.toNat e;simp at this;omega
 ·omega
theorem Jp9 {s:List UInt8} {i:Nat} (h:(dec s i).1<128):at_ s i=(dec s i).1:=by
 have h0:=Nd s i
 rw [Qd] at h ⊢
 split at h
 ·simp at h
 ·rename_i hr
  rw [if_neg hr]
  simp only at h ⊢
  rcases Py s i with e | ⟨e,g1⟩ | ⟨e,g1,g2,g3⟩ | ⟨e,g1,g2,g3,g4,g5,g6⟩ | ⟨e,g1,g2,g3,g4,g5,g6,g7⟩
  ·exact absurd e hr
  ·unfold code;rw [if_pos g1]
  ·have ec:code s i=at_ s i % 32 * 64+at_ s (i+1) % 64:=by unfold code;rw [if_neg (by omega),if_pos (by omega)]
   omega
  ·have ec:code s i=at_ s i % 16 * 4096+at_ s (i+1) % 64 * 64+at_ s (i+2) % 64:=by unfold code;rw [if_neg (by omega),if_neg (by omega),if_pos (by omega)]
   omega
  ·have ec:code s i=at_ s i % 8 * 262144+at_ s (i+1) % 64 * 4096+at_ s (i+2) % 64 * 64+at_ s (i+3) % 64:=by unfold code;rw [if_neg (by omega),if_neg (by omega),if_neg (by omega)]
   omega
theorem Jls (s:List UInt8):∀ (f i:Nat),0≤iaF s f i→∃ k,k<s.length∧hexv (at_ s k)=none
 | 0,i,h=>by simp [iaF] at h
 | f+1,i,h=>by
  simp only [iaF] at h
  split at h
  ·rename_i hi
   split at h
   ·rename_i hm
    have h1:=Js0 (by omega) hm
    have h2:=Jp9 (s:=s) (i:=i) (by omega)
    refine ⟨i,hi,?_⟩
    unfold hexv
    rw [if_neg (by omega),if_neg (by omega),if_neg (by omega)]
   ·exact Jls s f _ h
  ·omega
theorem Jg2:∀ (s:List UInt8) (a k:Nat),k<s.length→hexv (at_ s k)=none→hexN s a=none
 | [],a,k,h,_=>by simp at h
 | c :: s,a,0,h,hn=>by
  simp only [hexN]
  rw [show hexv c.toNat=none from hn]
 | c :: s,a,k+1,h,hn=>by
  simp only [hexN]
  split
  ·exact Jg2 s _ k (by simpa using h) hn
  ·rfl
theorem Jji:∀ (s:List UInt8) (a n:Nat),hexN s a=some n→n<(a+1) * 16 ^ s.length
 | [],a,n,h=>by simp [hexN] at h;subst h;simp
 | c :: s,a,n,h=>by
  simp only [hexN] at h
  split at h
  ·rename_i d hd
   have hd':d<16:=by
    unfold hexv at hd
    split at hd
    ·cases hd;omega
    split at hd
    ·cases hd;omega
    split at hd
    ·cases hd;omega
    ·cases hd
   have:=Jji s _ n h
   refine Nat.lt_of_lt_of_le this ?_
   simp only [List.length_cons,Nat.pow_succ]
   rw [Nat.mul_comm (16 ^ s.length) 16,← Nat.mul_assoc]
   exact Nat.mul_le_mul_right _ (by omega)
  ·cases h
end Go.LX
namespace Go.LX
open Go
def Tb (K:PV→Prop):Prop:=∀ a b,K a→K b→∃ t,Ww a b=some t∧(t=true ↔ a=b)
def Jlu (q:IntKind) (k:PV):Prop:=∃ n,k=.int q n
theorem Jb6 (q:IntKind):Tb (Jlu q):=by
 rintro a b ⟨x,rfl⟩ ⟨y,rfl⟩
 exact ⟨x == y,by simp [Ww],by simp⟩
structure MapF (K:PV→Prop) (es:List (PV×PV)):Prop where
 keys:∀ p∈es,K p.1
 nodup:(es.map (·.1)).Nodup
theorem MapF.nil {K:PV→Prop}:MapF K []:=⟨fun p h=>by simp at h,by simp⟩
variable {K:PV→Prop} {es:List (PV×PV)}
theorem MapF.tail {p:PV×PV} (h:MapF K (p :: es)):MapF K es:=⟨fun q hq=>h.keys q (List.mem_cons_of_mem _ hq),(List.nodup_cons.1 h.nodup).2⟩
theorem MapF.one (h:MapF K es) {k v w:PV} (h1:(k,v)∈es) (h2:(k,w)∈es):v=w:=by
 induction es with
 | nil=>simp at h1
 | cons p es ih =>
  have hn:=List.nodup_cons.1 h.nodup
  have key:∀ {u:PV},(k,u)∈es→p.1≠k:=fun {u} hu e=>hn.1 (by show p.1∈_;rw [e];exact List.mem_map_of_mem (f:=(·.1)) hu)
  rcases List.mem_cons.1 h1 with h1 | h1
  ·rcases List.mem_cons.1 h2 with h2 | h2
   ·rw [← h1] at h2;exact (Prod.mk.inj h2).2.symm
   ·exact absurd (by rw [← h1]) (key h2)
  ·rcases List.mem_cons.1 h2 with h2 | h2
   ·exact absurd (by rw [← h2]) (key h1)
   ·exact ih h.tail h1 h2
theorem Rt (hK:Tb K) {k:PV} (hk:K k):∀ (es:List (PV×PV)) (i:Nat),MapF K es →
  (K2 k es i=some none∧∀ v,(k,v) ∉ es)∨∃ j v,K2 k es i=some (some (i+j,v))∧es[j]? = some (k,v)
 | [],i,_=>.inl ⟨rfl,fun v h=>by simp at h⟩
 | (x,u) :: es,i,h=>by
  obtain ⟨t,h1,h2⟩:=hK k x hk (h.keys (x,u) List.mem_cons_self)
  cases t with
  | true =>
   have e:k=x:=h2.1 rfl
   subst e
   exact .inr ⟨0,u,by simp [K2,h1],rfl⟩
  | false =>
   have hne:k≠x:=fun e=>by have:=h2.2 e;cases this
   rcases Rt hK hk es (i+1) h.tail with ⟨g1,g2⟩ | ⟨j,v,g1,g2⟩
   ·refine .inl ⟨by simp [K2,h1,g1],fun v hv=>?_⟩
    rcases List.mem_cons.1 hv with hv | hv
    ·exact hne (Prod.mk.inj hv).1
    ·exact g2 v hv
   ·exact .inr ⟨j+1,v,by simp [K2,h1,g1];omega,by simpa using g2⟩
theorem Jsc (hK:Tb K) {k v:PV} (h:MapF K es) (hv:(k,v)∈es):∃ j,K2 k es 0=some (some (j,v)):=by
 have hk:=h.keys _ hv
 rcases Rt hK hk es 0 h with ⟨_,g⟩ | ⟨j,u,g1,g2⟩
 ·exact absurd hv (g v)
 ·have:=h.one hv (List.mem_of_getElem? g2)
  subst this
  exact ⟨0+j,g1⟩
theorem Jqa (hK:Tb K) {k:PV} (hk:K k) (h:MapF K es) (hv:∀ v,(k,v) ∉ es):K2 k es 0=some none:=by
 rcases Rt hK hk es 0 h with ⟨g,_⟩ | ⟨j,u,g1,g2⟩
 ·exact g
 ·exact absurd (List.mem_of_getElem? g2) (hv u)
theorem key_at (h:MapF K es) {i j:Nat} {p q:PV×PV} (hi:es[i]? = some p) (hj:es[j]? = some q) (e:p.1=q.1):i=j:=by
 have h1:(es.map (·.1))[i]? = some p.1:=by simp [hi]
 have h2:(es.map (·.1))[j]? = some p.1:=by simp [hj,e]
 have hil:=(List.getElem?_eq_some_iff.1 h1).1
 exact (List.getElem?_inj hil h.nodup).1 (h1.trans h2.symm)
theorem Jqv (hK:Tb K) {k v:PV} (hk:K k) (h:MapF K es) :
  ∃ es',mput k v es=some es'∧MapF K es'∧(∀ k' v',(k',v')∈es' ↔ (k'=k∧v'=v)∨(k'≠k∧(k',v')∈es)):=by
 rcases Rt hK hk es 0 h with ⟨g1,g2⟩ | ⟨j,u,g1,g2⟩
 ·refine ⟨es ++ [(k,v)],by simp [mput,g1],⟨fun p hp=>?_,?_⟩,fun k' v'=>?_⟩
  ·rcases List.mem_append.1 hp with hp | hp
   ·exact h.keys p hp
   ·simp at hp;subst hp;exact hk
  ·rw [List.map_append,List.nodup_append]
   refine ⟨h.nodup,by simp,fun a ha b hb=>?_⟩
   simp at hb;subst hb
   rintro rfl
   obtain ⟨q,hq,rfl⟩:=List.mem_map.1 ha
   exact g2 q.2 hq
  ·simp only [List.mem_append,List.mem_singleton,Prod.mk.injEq]
   constructor
   ·rintro (hm | hm)
    ·exact .inr ⟨fun e=>g2 v' (e ▸ hm),hm⟩
    ·exact .inl hm
   ·rintro (hm | hm)
    ·exact .inr hm
    ·exact .inl hm.2
 ·have hj:=(List.getElem?_eq_some_iff.1 g2).1
  refine ⟨es.set j (k,v),by simp [mput,g1],⟨fun p hp=>?_,?_⟩,fun k' v'=>?_⟩
  ·rcases List.mem_or_eq_of_mem_set hp with hp | rfl
   ·exact h.keys p hp
   ·exact hk
  ·have e:(es.set j (k,v)).map (·.1)=es.map (·.1):=by
    rw [List.map_set]
    apply List.ext_getElem?
    intro i
    rw [List.getElem?_set]
    split
    ·rename_i hij;subst hij
     have:=(List.getElem?_eq_some_iff.1 g2).2
     simp [hj,this]
    ·rfl
   rw [e];exact h.nodup
  ·constructor
   ·intro hm
    obtain ⟨i,hi⟩:=List.getElem?_of_mem hm
    rw [List.getElem?_set] at hi
    split at hi
    ·first
      | (have e:=Option.some.inj hi;exact .inl ⟨(Prod.mk.inj e).1.symm,(Prod.mk.inj e).2.symm⟩)
      | (
       split at hi
       ·have e:=Option.some.inj hi;exact .inl ⟨(Prod.mk.inj e).1.symm,(Prod.mk.inj e).2.symm⟩
       ·cases hi)
    ·rename_i hij
     refine .inr ⟨fun e=>hij ?_,List.mem_of_getElem? hi⟩
     exact key_at h g2 hi (by simp [e])
   ·rintro (⟨rfl,rfl⟩ | ⟨hne,hm⟩)
    ·exact List.mem_of_getElem? (i:=j) (by simp [hj])
    ·obtain ⟨i,hi⟩:=List.getElem?_of_mem hm
     refine List.mem_of_getElem? (i:=i) ?_
     rw [List.getElem?_set,if_neg (fun e=>?_)]
     ·exact hi
     ·subst e;rw [g2] at hi;exact hne (Prod.mk.inj (Option.some.inj hi)).1.symm
theorem Jqg (hK:Tb K) {k:PV} (hk:K k) (h:MapF K es) :
  ∃ es',mdel k es=some es'∧MapF K es'∧(∀ k' v',(k',v')∈es' ↔ k'≠k∧(k',v')∈es):=by
 rcases Rt hK hk es 0 h with ⟨g1,g2⟩ | ⟨j,u,g1,g2⟩
 ·refine ⟨es,by simp [mdel,g1],h,fun k' v'=>⟨fun hm=>⟨fun e=>g2 v' (e ▸ hm),hm⟩,fun hm=>hm.2⟩⟩
 ·have hs:(es.eraseIdx j).Sublist es:=List.eraseIdx_sublist ..
  refine ⟨es.eraseIdx j,by simp [mdel,g1],⟨fun p hp=>h.keys p (hs.subset hp),?_⟩,fun k' v'=>⟨fun hm=>⟨fun e=>?_,hs.subset hm⟩,fun hm=>?_⟩⟩
  ·exact (hs.map _).nodup h.nodup
  ·obtain ⟨i,hij,hi⟩:=List.mem_eraseIdx_iff_getElem?.1 hm
   exact hij (key_at h hi g2 (by simp [e]))
  ·obtain ⟨i,hi⟩:=List.getElem?_of_mem hm.2
   refine List.mem_eraseIdx_iff_getElem?.2 ⟨i,fun e=>?_,hi⟩
   subst e;rw [g2] at hi;exact hm.1 (Prod.mk.inj (Option.some.inj hi)).1.symm
def Vg (seen:List Nat):Nat→Nat
 | 0=>0
 | n+1=>Vg seen n+(if n∈seen then 0 else 1)
theorem Jg8 (seen:List Nat) (i:Nat):∀ n,Vg (seen ++ [i]) n≤Vg seen n
 | 0=>Nat.le_refl _
 | n+1=>by
  have:=Jg8 seen i n
  simp only [Vg,List.mem_append,List.mem_singleton]
  by_cases h1:n∈seen
  ·rw [if_pos (.inl h1),if_pos h1];omega
  ·rw [if_neg h1];split <;> omega
theorem Jgc {seen:List Nat} {i:Nat} (hi:i ∉ seen):∀ {n},i<n→Vg (seen ++ [i]) n<Vg seen n
 | 0,h=>by omega
 | n+1,h=>by
  simp only [Vg,List.mem_append,List.mem_singleton]
  by_cases h2:n=i
  ·subst h2
   have:=Jg8 seen n n
   rw [if_pos (.inr rfl),if_neg hi];omega
  ·have:=Jgc hi (n:=n) (by omega)
   by_cases h1:n∈seen
   ·rw [if_pos (.inl h1),if_pos h1];omega
   ·rw [if_neg (fun h=>h.elim h1 h2),if_neg h1];omega
end Go.LX
