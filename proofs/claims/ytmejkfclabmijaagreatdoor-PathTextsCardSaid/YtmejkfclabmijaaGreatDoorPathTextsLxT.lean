/- Package quote: Quote. -/
import Derived.Test.YtmejkfclabmijaaGreatDoorPathTextsLxS
set_option linter.unusedSimpArgs false
set_option linter.unusedVariables false
set_option linter.unusedSectionVars false
set_option linter.unnecessarySimpa false
set_option maxRecDepth 100000
set_option maxHeartbeats 2000000
namespace Go.LX
open Go Go.RowKit Go.Proofs
attribute [local irreducible] B2 SWP Hb
theorem Jor (a b:List UInt8):wrs (a ++ b)=wrs a ++ wrs b:=by simp [wrs]
def qr (r:Int):List UInt8:=match letR r with
 | some c=>[92,UInt8.ofNat c]
 | none=>if r<32 then [92,117,48,48] ++ (hex3 (r.toNat+256)).drop 1 else utf r
theorem wr_high {c:Nat} (h:128≤c):wr c=[UInt8.ofNat c]:=by
 unfold wr
 rw [if_neg (by omega),if_neg (by omega),if_neg (by omega),if_neg (by omega),if_neg (by omega),if_neg (by omega),if_neg (by omega),if_neg (by omega)]
theorem wr_low {c:Nat} (h:c<128):wr c=qr c:=by
 have key:∀ m:Fin 128,wr m.val=qr m.val:=by decide
 exact key ⟨c,h⟩
theorem Jk1:∀ l:List UInt8,(∀ c∈l,128≤c.toNat)→wrs l=l
 | [],_=>rfl
 | c :: l,h=>by
  show wr c.toNat ++ wrs l=c :: l
  rw [wr_high (h c List.mem_cons_self),Jk1 l fun d hd=>h d (List.mem_cons_of_mem _ hd)]
  simp
theorem Jrd {r:Int} (h:93≤r):letR r=none:=by
 unfold letR
 rw [if_neg (by omega),if_neg (by omega),if_neg (by omega),if_neg (by omega),if_neg (by omega),if_neg (by omega),if_neg (by omega)]
theorem Jjr {s:List UInt8} {i:Nat} (h:rlen s i≠0) (hi:i<s.length):wrs ((s.drop i).take (rlen s i))=qr (code s i):=by
 by_cases h1:at_ s i<128
 ·rw [Jdz.2 h1,(Rr h).2 h1,← wr_low h1]
  rw [List.drop_eq_getElem_cons hi,List.take_succ_cons,List.take_zero]
  show wr s[i].toNat ++ []=wr (at_ s i)
  rw [List.append_nil,Jfg hi]
 ·have hc:128≤code s i:=by have:=(Rr h).1;omega
  have e:qr (code s i)=utf (code s i):=by
   unfold qr
   rw [Jrd (by omega)]
   simp only
   rw [if_neg (by omega)]
  rw [e,Tl h hi]
  apply Jk1
  intro c hm
  rw [← Tl h hi] at hm
  obtain ⟨x,hx,rfl⟩:=List.mem_map.1 hm
  have hx2:128≤x∧x<256:=by
   revert hx
   unfold utfC
   rw [if_neg (by omega)]
   repeat' split
   all_goals (simp;try omega)
  have:=J4 (c:=x) (by omega) (by omega)
  omega
theorem W2 (es:List (List PV)) (s:List UInt8) (n:Nat) (he:es=bstr s) (hn:s.length=n) (h1:n≤1000000000) (h0:n≠0):Det cx 119 [.ptr 1000 0 0] [(500001,.row 5 1 es),(1000,.var 128 [.ptr 1000 0 0,.own 500001 0 n])] (.p (.str s)) [(1000,.var 128 [.ptr 1000 0 0,.junk])]:=by
 subst he
 exact Og s n hn h1 h0
@[simp] theorem bstr_34:bstr [34]=[[.int .u8 34]]:=rfl
theorem Jti (u:Nat):(hex3 u).length=3:=rfl
theorem Wi (s:List UInt8) (hs:s.length≤1000000) (hv:valid s=true):Det cx 109 [.p (.str s)] [] (.p (.str (refQ s))) []:=by
 skip
 (refine B2.of_code (X:=cx) false [] (by simp) Tryz.func109 (by kernel_rfl) rfl (by simp only [List.length_cons,List.length_nil,Tryz.ntmps109];decide) (by simp) ?_;refine Ax hm _ _ _ ?_;simp only [Tryz.ntmps109,Tryz.results109,Ah,Bm,Ab,Bd,A1,Bc,Ct,A0,Ch,F6,Aj,Hv,Cg,Bo,Gy,Hw,Cu,Ag,Cf,Bv,Bi,Bz,Bx,A4,Bh,Az,A5,B4,Ez,Ad,Bn,Bg,Bb,argW,List.map_cons,List.map_nil,List.append_nil,List.flatMap_nil,Nat.reduceLT,Nat.reduceEqDiff,true_and,Cc,Bw,↓reduceIte,Bool.true_and,Jhm])
 (repeat' (first | (refine iteI (fun h=>?_) (fun h=>?_))|(refine B1 (by first | omega | (simp (disch:=omega) only [Aa,Ak,Ai] at *;omega)) ?_;intro b hb)|(refine And.intro (by first | omega | (simp (disch:=omega) only [Aa,Ak,Ai] at *;omega)) ?_)|((first | (refine Ba hm (by rfl) (by kernel_rfl) ?_));simp only [Dh])|(exact True.intro)|(exfalso;omega)))
 refine Jrh.mono fun m q hm'=>?_
 obtain ⟨rfl,es,rfl,hL⟩:=hm'
 simp only [Ah,Bm,Ab,Bd,A1,Bc,Ct,Bf,A0,Ch,Ca,Aj,Cg,Ag,Ae,A3,H1,Cf,Bv,Bi,Bz,Bx,Fb,Bp,D7,Gn,Fr,Fq,Eg,B6,Fi,Gw,Bh,Az,Ff,Fe,Hj,Fd,Eu,Fc,Ie,Ig,Fa,Ew,H2,Cl,I5,Ad,Ac,List.map_cons,List.map_nil,List.length_cons,List.length_nil,List.append_nil,List.flatMap_cons,List.flatMap_nil,List.contains_cons,List.contains_nil,Nat.reduceLT,Nat.reduceEqDiff,Nat.reduceAdd,Bw,↓reduceIte,Nat.zero_add,Bool.false_eq_true,Bool.or_false,beq_self_eq_true]
 (repeat' (first | (refine iteI (fun h=>?_) (fun h=>?_))|(refine B1 (by first | omega | (simp (disch:=omega) only [Aa,Ak,Ai] at *;omega)) ?_;intro b hb)|(refine And.intro (by first | omega | (simp (disch:=omega) only [Aa,Ak,Ai] at *;omega)) ?_)|((first | (refine Ba hm (by rfl) (by kernel_rfl) ?_)|(refine Det.use (Sg 34) ?_)|(refine Det.useQ (Sg 34) ?_));simp only [Ah,Bm,Ce,He,Ab,Bd,A1,Bc,Ct,Bf,A9,V1,Cu,Ik,D3,G2,Dz,Es,Hk,H6,Lo,Fm,Fh,Fs,Fx,Hs,Hl,Jz,Bu,D7,Iu,Hm,Nz,Ft,Gl,Eg,Di,B6,Fi,D2,Gw,Ey,Wf,Vi,Aw,B4,C4,Hy,Fy,Ez,H8,Ga,Ad,Ac,Bn,Cq,Bg,Bb,List.map_cons,List.map_nil,List.cons_append,List.nil_append,decide_eq_true_eq,ne_eq,not_false_eq_true,Nat.reduceLT,Nat.reduceLeDiff,Nat.reduceEqDiff,true_and,Cc,↓reduceIte,reduceCtorEq,Bool.true_and,Hi])|(exact True.intro)|(exfalso;omega)))
 refine SWP.loop (fun x:Nat×Nat=>⟨Fp 41 [(0,.p (.str s)),(3,.ptr 3 0 0),(4,.p (.mp es)),(12,.ptr 12 0 0)],[(12,.obj (.sit s x.1)),(10,.row 5 1 (bstr (34 :: wrs (s.take x.1)))),(3,.var 128 [.ptr 3 0 0,.own 10 0 (34 :: wrs (s.take x.1)).length])]⟩) (fun x=>x.1≤s.length∧s.length+1≤x.1+x.2∧vF s x.2 x.1=true) (fun x=>s.length - x.1) (0,s.length+1) (St.le_slots (by simp only [Cd,Ck,Ac,Be,Aq,Nat.reduceEqDiff,reduceIte,Nat.reduceLT,Nat.reduceLeDiff];simp (disch:=omega) [Aq,A8,Cm,Aa] <;> (repeat' apply And.intro) <;> omega) (by simp (disch:=omega) [Dc,Ee,C9,Bj,Aq,A8,Cm,Aa]) (by simp [De])) ⟨by simp,by simp,hv⟩ ?_
 rintro ⟨i,f⟩ ⟨h1,h2,h3⟩
 simp only at h1 h2 h3
 obtain ⟨g,rfl⟩:∃ g,f=g+1:=⟨f - 1,by omega⟩
 have hw:=Jna (s.take i)
 have hl:(s.take i).length≤s.length:=List.length_take_le' ..
 rw [vF] at h3
 by_cases hlt:¬ i<s.length
 ·have ht:s.take i=s:=List.take_of_length_le (by omega)
  rw [ht] at hw ⊢
  (refine Ax hm _ _ _ ?_;simp only [Cb,Ah,Bm,Br,Ce,Eh,Ab,Ci,B0,Bd,A1,Bc,Bf,A0,Ch,Ca,A9,Aj,Ek,Cg,Vl,Xx,Bl,Bq,G8,Eb,Ag,Ae,A3,H1,Cf,Bv,Bi,Bz,Bx,Fb,Jt,D7,Gn,Fr,Fq,J5,Eg,Di,B6,Fi,D2,Gw,Ey,Bh,Az,Ff,Fe,Hj,Fd,Eu,Fc,H3,Ie,Ig,Fa,Ew,Vo,Ty,Jew,S9,Jgk,Pw,O8,Mk,Aw,Cp,H2,Jq,Cl,I5,Ki,Ad,Ac,Dy,List.map_cons,List.map_nil,List.length_cons,List.length_nil,List.cons_append,List.nil_append,List.append_nil,List.flatMap_cons,List.flatMap_nil,List.contains_cons,List.contains_nil,List.getElem?_cons_zero,List.getElem?_cons_succ,Nat.reduceLT,Nat.reduceLeDiff,Nat.reduceEqDiff,Nat.reduceAdd,Nat.reduceBEq,true_and,and_true,Cc,Bw,↓reduceIte,reduceCtorEq,Nat.zero_add,Bool.false_eq_true,Bool.true_and,Bool.and_true,Bool.or_false,beq_self_eq_true,Jg4,Q0,Jds,Yl])
  (repeat' (first | (refine iteI (fun h=>?_) (fun h=>?_))|(refine B1 (by first | omega | (simp (disch:=omega) only [Aa,Ak,Ai] at *;omega)) ?_;intro b hb)|(refine And.intro (by first | omega | (simp (disch:=omega) only [Aa,Ak,Ai] at *;omega)) ?_)|((first | (refine Ba hm (by rfl) (by kernel_rfl) ?_)|(refine Det.use (Nx 34 _ _ (Mw _) (by simp;omega)) ?_)|(refine Det.useQ (Nx 34 _ _ (Mw _) (by simp;omega)) ?_)|(refine Det.use (W2 _ (34 :: wrs s ++ [34]) _ (by simp [bstr]) (by simp) (by simp;omega) (by simp)) ?_)|(refine Det.useQ (W2 _ (34 :: wrs s ++ [34]) _ (by simp [bstr]) (by simp) (by simp;omega) (by simp)) ?_));simp only [Ah,Bm,Cn,Ab,Bd,A1,Bc,Ct,Bf,Ch,Aj,Cg,Ag,Ae,A3,H1,Cf,Bv,Bi,Bz,Bx,Fb,Ik,D3,Hq,Gk,Dz,Es,Hk,Hp,Fm,Fh,Fs,Ih,Fx,Mg,Fv,Hl,Jd,D6,Bu,Jt,D7,Iu,Ip,Ft,Gl,Gn,Fr,Fq,J5,Eg,Di,Yg,B6,Fi,D2,Et,H7,Gw,Ey,Bh,Az,Ff,Fe,Hj,Fd,Eu,Fc,H3,Ie,Ig,Fa,Ew,Bs,Cs,Cr,A6,A7,B9,Av,Ap,Al,B7,B5,Af,Am,Ao,Co,Ay,Aw,H2,Jq,I5,Ki,A2,Ad,Ac,Cq,Bg,Bb,List.map_cons,List.map_nil,List.length_cons,List.length_nil,List.cons_append,List.nil_append,List.append_nil,List.flatMap_cons,List.flatMap_nil,List.contains_cons,List.contains_nil,Nat.reduceLT,Nat.reduceLeDiff,Nat.reduceEqDiff,Nat.reduceAdd,Nat.reduceBEq,and_true,Bw,↓reduceIte,reduceCtorEq,Nat.zero_add,L.p.injEq,PV.str.injEq,Bool.false_eq_true,Bool.and_true,Bool.or_false,beq_self_eq_true])|(exact True.intro)|(exfalso;omega)))
  rfl
 have hlt:=Decidable.not_not.1 hlt
 rw [if_pos hlt] at h3
 have hd:=Qd s i
 have hrl:=Wg s i hlt
 by_cases hr:rlen s i=0
 ·rw [if_pos hr] at h3;cases h3
 rw [if_neg hr] at h3 hd
 have hR:=Qf hr
 unfold Kq at hR
 have hq:wrs (s.take (i+rlen s i))=wrs (s.take i) ++ qr (code s i):=by
  rw [List.take_add,Jor,Jjr hr hlt]
 have hw0:=wi0 (c:=code s i) (by omega)
 have hw1:IntKind.i64.wrap ((code s i:Int)+256)=((code s i+256:Nat):Int):=by rw [Aa (by omega) (by omega)];omega
 rcases hL (code s i) with ⟨hlr,hmf⟩ | ⟨j,c,hlr,hc,hmf⟩
 ·skip
  (refine Ax hm _ _ _ ?_;simp only [Cb,Ah,Bm,Br,Ce,Eh,Ab,Ci,B0,Bd,A1,Bc,Bf,A0,Ch,Ca,F6,A9,Aj,B8,Ek,Cg,Vl,Xx,Bo,Bl,Bq,Au,Bt,Ar,Dm,G8,Eb,Ag,Ae,A3,H1,Cf,Bv,Bi,Bz,Bx,Fb,Jt,D7,Gn,Fr,Fq,J5,Eg,Di,B6,Fi,D2,Gw,Ey,Bh,Az,Ff,Fe,Hj,Fd,Eu,Fc,H3,Ie,Ig,Fa,Ew,Vo,Ty,Jew,S9,Jgk,Jlm,Jfk,Pw,O8,Mk,Aw,Cp,H2,Jq,Cl,I5,Ki,Ad,Ac,Dy,List.map_cons,List.map_nil,List.length_cons,List.length_nil,List.cons_append,List.nil_append,List.append_nil,List.flatMap_cons,List.flatMap_nil,List.contains_cons,List.contains_nil,List.getElem?_cons_zero,List.getElem?_cons_succ,decide_eq_true_eq,Nat.reduceLT,Nat.reduceLeDiff,Nat.reduceEqDiff,Nat.reduceAdd,Nat.reduceBEq,true_and,and_true,Cc,Bw,↓reduceIte,reduceCtorEq,Nat.zero_add,Bool.false_eq_true,Bool.true_and,Bool.and_true,Bool.or_false,Bool.or_true,beq_self_eq_true,Jg4,Q0,Jds,Yl,hd,hmf])
  (repeat' (first | (refine iteI (fun h=>?_) (fun h=>?_))|(refine B1 (by first | omega | (simp (disch:=omega) only [Aa,Ak,Ai] at *;omega)) ?_;intro b hb)|(refine And.intro (by first | omega | (simp (disch:=omega) only [Aa,Ak,Ai] at *;omega)) ?_)|((first | (refine Ba hm (by rfl) (by kernel_rfl) ?_)|(refine Det.use (Jo _ _ _ (by simp [bstr]) (by simp;omega) (by simp [hex3])) ?_)|(refine Det.useQ (Jo _ _ _ (by simp [bstr]) (by simp;omega) (by simp [hex3])) ?_)|(refine Det.use (Jbk (code s i+256) (by omega) (by omega)) ?_)|(refine Det.useQ (Jbk (code s i+256) (by omega) (by omega)) ?_)|(refine Det.use (N1 _ _ _ (Mw _) (by simp;omega) (by omega) (by omega)) ?_)|(refine Det.useQ (N1 _ _ _ (Mw _) (by simp;omega) (by omega) (by omega)) ?_));simp only [Ah,Ab,Bk,Bd,A1,Bc,Ct,Bf,A0,Ch,Ca,A9,B8,Kb,E7,Cg,Au,Bt,Ar,E8,L4,Hz,Kl,Hn,Ev,D5,E2,H4,Gf,Ag,Ae,A3,H1,Cf,Bv,Bi,Bz,Bx,Fb,A4,Bp,Ik,D3,Hq,Gk,Dz,Es,Hk,Hp,Fm,Fh,Fs,Ih,Fx,Fv,Hl,Jd,D6,Bu,Jt,D7,Iu,Ip,Ft,Gl,Gn,Fr,Fq,J5,Eg,Di,Yg,B6,Fi,D2,Et,Gw,Ey,Bh,Az,Ff,A5,Fe,Hj,Fd,Eu,Fc,H3,Ie,Ig,Fa,Ew,Aw,H2,Jq,Cl,I5,Ki,Ad,Ac,Cq,Bg,Bb,Dy,List.map_cons,List.map_nil,List.length_cons,List.length_nil,List.cons_append,List.nil_append,List.append_nil,List.flatMap_cons,List.flatMap_nil,List.contains_cons,List.contains_nil,Nat.reduceLT,Nat.reduceLeDiff,Nat.reduceEqDiff,Nat.reduceAdd,Nat.reduceBEq,Int.reduceToNat,Int.reduceLE,true_and,and_true,Cc,Bw,↓reduceIte,reduceCtorEq,Nat.zero_add,Bool.false_eq_true,Bool.true_and,Bool.and_true,Bool.or_false,Bool.or_true,beq_self_eq_true,f_u2,Hi,Q0,hw0,hw1,Jti])|(exact True.intro)|(exfalso;omega)))
  ·have hqr:qr (code s i)=[92,117,48,48] ++ (hex3 (code s i+256)).drop 1:=by
    unfold qr;rw [hlr];simp only;rw [if_pos (by omega)];rfl
   have hrow:bstr (34 :: wrs (s.take (i+rlen s i)))=bstr (34 :: wrs (s.take i)) ++ bstr [92,117,48,48] ++ bstr ((hex3 (code s i+256)).drop 1):=by
    rw [hq,hqr,← List.cons_append,Rw,Rw,List.append_assoc]
   have hlen:(wrs (s.take (i+rlen s i))).length+1=(wrs (s.take i)).length+1+4+((hex3 (code s i+256)).drop 1).length:=by rw [hq,hqr];simp [hex3]
   refine ⟨(i+rlen s i,g),⟨by simp only;omega,by simp only;omega,h3⟩,by simp only;omega,?_⟩
   simp only [List.length_cons]
   rw [hrow,hlen]
   exact (St.le_slots (by simp only [Cd,Ck,Ac,Be,Aq,Nat.reduceEqDiff,reduceIte,Nat.reduceLT,Nat.reduceLeDiff];simp (disch:=omega) [Aq,A8,Cm,Aa] <;> (repeat' apply And.intro) <;> omega) (by simp (disch:=omega) [Dc,Ee,C9,Bj,Aq,A8,Cm,Aa]) (by simp [De]))
  ·have hqr:qr (code s i)=utf (code s i):=by
    unfold qr;rw [hlr];simp only;rw [if_neg (by omega)]
   have hrow:bstr (34 :: wrs (s.take (i+rlen s i)))=bstr (34 :: wrs (s.take i)) ++ bstr (utf (code s i)):=by
    rw [hq,hqr,← List.cons_append,Rw]
   have hlen:(wrs (s.take (i+rlen s i))).length+1=(wrs (s.take i)).length+1+(utf (code s i)).length:=by rw [hq,hqr];simp;omega
   refine ⟨(i+rlen s i,g),⟨by simp only;omega,by simp only;omega,h3⟩,by simp only;omega,?_⟩
   simp only [List.length_cons]
   rw [hrow,hlen]
   exact (St.le_slots (by simp only [Cd,Ck,Ac,Be,Aq,Nat.reduceEqDiff,reduceIte,Nat.reduceLT,Nat.reduceLeDiff];simp (disch:=omega) [Aq,A8,Cm,Aa] <;> (repeat' apply And.intro) <;> omega) (by simp (disch:=omega) [Dc,Ee,C9,Bj,Aq,A8,Cm,Aa]) (by simp [De]))
 ·skip
  (refine Ax hm _ _ _ ?_;simp only [Cb,Ah,Bm,Br,Ce,Eh,Ab,Ci,B0,Bd,A1,Bc,Bf,A0,Ch,Ca,A9,Aj,Ek,Cg,Vl,Xx,Bo,Bl,Bq,G8,Eb,Ag,Ae,A3,H1,Cf,Bv,Bi,Bz,Bx,Fb,Jt,D7,Gn,Fr,Fq,J5,Eg,Di,B6,Fi,D2,Gw,Ey,Bh,Az,Ff,Fe,Hj,Fd,Eu,Fc,H3,Ie,Ig,Fa,Ew,Vo,Ty,Jew,S9,Jgk,Jlm,Jfd,Pw,O8,Mk,Aw,Cp,H2,Jq,Cl,I5,Ki,Ad,Ac,Dy,List.map_cons,List.map_nil,List.length_cons,List.length_nil,List.cons_append,List.nil_append,List.append_nil,List.flatMap_cons,List.flatMap_nil,List.contains_cons,List.contains_nil,List.getElem?_cons_zero,List.getElem?_cons_succ,Nat.reduceLT,Nat.reduceLeDiff,Nat.reduceEqDiff,Nat.reduceAdd,Nat.reduceBEq,true_and,and_true,Cc,Bw,↓reduceIte,reduceCtorEq,Nat.zero_add,Bool.false_eq_true,Bool.true_and,Bool.and_true,Bool.or_false,beq_self_eq_true,Jg4,Q0,Jds,Yl,hd,hmf,hd,hmf])
  (repeat' (first | (refine iteI (fun h=>?_) (fun h=>?_))|(refine B1 (by first | omega | (simp (disch:=omega) only [Aa,Ak,Ai] at *;omega)) ?_;intro b hb)|(refine And.intro (by first | omega | (simp (disch:=omega) only [Aa,Ak,Ai] at *;omega)) ?_)|((first | (refine Ba hm (by rfl) (by kernel_rfl) ?_)|(refine Det.use (Nx _ _ _ (by simp [bstr]) (by simp;omega)) ?_)|(refine Det.useQ (Nx _ _ _ (by simp [bstr]) (by simp;omega)) ?_));simp only [Ah,Bm,Ab,Bk,Bd,A1,Bc,Ct,Bf,Ch,A9,Cg,Ag,Ae,A3,H1,Cf,Bv,Bi,Bz,Bx,Fb,Ik,D3,Hq,Gk,Dz,Es,Hk,Hp,Fm,Fh,Fs,Ih,Fx,Fv,Hl,Jd,D6,Bu,Jt,D7,Iu,Ip,Ft,Gl,Gn,Fr,Fq,J5,Eg,Di,Yg,B6,Fi,D2,Et,Gw,Ey,Bh,Az,Ff,Fe,Hj,Fd,Eu,Fc,H3,Ie,Ig,Fa,Ew,Aw,H2,Jq,Cl,I5,Ki,Ad,Ac,Cq,Bg,Bb,Dy,List.map_cons,List.map_nil,List.length_cons,List.length_nil,List.cons_append,List.nil_append,List.append_nil,List.flatMap_cons,List.flatMap_nil,List.contains_cons,List.contains_nil,Nat.reduceLT,Nat.reduceLeDiff,Nat.reduceEqDiff,Nat.reduceAdd,Nat.reduceBEq,and_true,Bw,↓reduceIte,reduceCtorEq,Nat.zero_add,Bool.false_eq_true,Bool.and_true,Bool.or_false,beq_self_eq_true])|(exact True.intro)|(exfalso;omega)))
  have hqr:qr (code s i)=[92,UInt8.ofNat c]:=by
   unfold qr;rw [hlr]
  have hrow:bstr (34 :: wrs (s.take (i+rlen s i)))=bstr (34 :: wrs (s.take i)) ++ [[.int .u8 92]] ++ [[.int .u8 c]]:=by
   rw [hq,hqr,← List.cons_append,Rw,List.append_assoc]
   simp [bstr]
   omega
  have hlen:(wrs (s.take (i+rlen s i))).length+1=(wrs (s.take i)).length+1+1+1:=by rw [hq,hqr];simp
  refine ⟨(i+rlen s i,g),⟨by simp only;omega,by simp only;omega,h3⟩,by simp only;omega,?_⟩
  simp only [List.length_cons]
  rw [hrow,hlen]
  exact (St.le_slots (by simp only [Cd,Ck,Ac,Be,Aq,Nat.reduceEqDiff,reduceIte,Nat.reduceLT,Nat.reduceLeDiff];simp (disch:=omega) [Aq,A8,Cm,Aa] <;> (repeat' apply And.intro) <;> omega) (by simp (disch:=omega) [Dc,Ee,C9,Bj,Aq,A8,Cm,Aa]) (by simp [De]))
end Go.LX
set_option maxRecDepth 100000
set_option maxHeartbeats 2000000
namespace Go.LX
open Go Go.RowKit Go.Proofs
attribute [local irreducible] B2 SWP Hb
def utfs (rs:List Int):List UInt8:=rs.flatMap utf
def wq (rs:List Int):List UInt8:=rs.flatMap qr
def AllR (rs:List Int):Prop:=∀ r∈rs,Kq r
theorem Sv (r:Int) (rs:List Int):utfs (r :: rs)=utf r ++ utfs rs:=rfl
theorem Jhz (r:Int) (rs:List Int):wq (r :: rs)=qr r ++ wq rs:=rfl
theorem AllR.app {a b:List Int} (h1:AllR a) (h2:AllR b):AllR (a ++ b):=fun r h=>(List.mem_append.1 h).elim (h1 r) (h2 r)
theorem AllR.tail {r:Int} {rs:List Int} (h:AllR (r :: rs)):AllR rs:=fun x hx=>h x (List.mem_cons_of_mem _ hx)
theorem AllR.head {r:Int} {rs:List Int} (h:AllR (r :: rs)):Kq r:=h r List.mem_cons_self
theorem Jbd:∀ (rs:List Int) (s:List UInt8) (f i:Nat),AllR rs→s.drop i=utfs rs→vF s f i=true
 | _,_,0,_,_,_=>rfl
 | [],s,f+1,i,_,h=>by
  have hl:=congrArg List.length h
  simp [utfs] at hl
  rw [vF,if_neg (by omega)]
 | r :: rs,s,f+1,i,ha,h=>by
  rw [Sv] at h
  obtain ⟨h1,_⟩:=Jeq ha.head (utfs rs)
  rw [← h,Z4,Nat.add_zero] at h1
  have hp:=Ud r
  have hd:s.drop (i+rlen s i)=utfs rs:=by
   rw [← List.drop_drop,h,h1,List.drop_left]
  rw [vF]
  split
  ·rw [if_neg (by omega)]
   exact Jbd rs s f _ ha.tail hd
  ·rfl
theorem Ja3:∀ (f:Nat) (s:List UInt8) (i:Nat),s.length<i+f→vF s f i=true→∃ rs,AllR rs∧s.drop i=utfs rs
 | 0,s,i,hf,_=>⟨[],by simp [AllR],List.drop_eq_nil_of_le (by omega)⟩
 | f+1,s,i,hf,h=>by
  rw [vF] at h
  split at h
  ·rename_i hlt
   split at h
   ·cases h
   ·rename_i hr
    obtain ⟨rs,ha,hd⟩:=Ja3 f s _ (by omega) h
    refine ⟨(code s i:Int) :: rs,?_,?_⟩
    ·intro r hm
     rcases List.mem_cons.1 hm with rfl | hm
     ·exact Qf hr
     ·exact ha r hm
    ·rw [Sv,Tl hr hlt,← hd,← List.drop_drop,List.take_append_drop]
  ·exact ⟨[],by simp [AllR],List.drop_eq_nil_of_le (by omega)⟩
theorem Qq {s:List UInt8}:valid s=true ↔ ∃ rs,AllR rs∧s=utfs rs :=
 ⟨fun h=>by
  obtain ⟨rs,ha,hd⟩:=Ja3 (s.length+1) s 0 (by omega) h
  exact ⟨rs,ha,hd⟩,fun ⟨rs,ha,e⟩=>Jbd rs s _ 0 ha (by rw [List.drop_zero];exact e)⟩
theorem wrs_utf {r:Int} (h:Kq r):wrs (utf r)=qr r:=by
 obtain ⟨h1,h2⟩:=Jeq h []
 rw [List.append_nil] at h1 h2
 have hp:=Ud r
 have:=Jjr (s:=utf r) (i:=0) (by omega) (by omega)
 rw [h1,List.drop_zero,List.take_length,h2] at this
 exact this
theorem Jfa:∀ rs:List Int,AllR rs→wrs (utfs rs)=wq rs
 | [],_=>rfl
 | r :: rs,h=>by rw [Sv,Jhz,Jor,wrs_utf h.head,Jfa rs h.tail]
theorem qr_pos (r:Int):1≤(qr r).length:=by
 have:=Ud r
 unfold qr
 split
 ·simp
 ·split
  ·simp
  ·exact this
theorem Jgf (r:Int):(letR r=none∧r≠34∧r≠92)∨∃ c,letR r=some c∧Lr c=some r.toNat∧0≤r∧c<256:=by
 unfold letR
 by_cases c1:r=34
 ·subst c1;exact .inr ⟨34,rfl,rfl,by decide,by decide⟩
 by_cases c2:r=92
 ·subst c2;exact .inr ⟨92,rfl,rfl,by decide,by decide⟩
 by_cases c3:r=8
 ·subst c3;exact .inr ⟨98,rfl,rfl,by decide,by decide⟩
 by_cases c4:r=12
 ·subst c4;exact .inr ⟨102,rfl,rfl,by decide,by decide⟩
 by_cases c5:r=10
 ·subst c5;exact .inr ⟨110,rfl,rfl,by decide,by decide⟩
 by_cases c6:r=13
 ·subst c6;exact .inr ⟨114,rfl,rfl,by decide,by decide⟩
 by_cases c7:r=9
 ·subst c7;exact .inr ⟨116,rfl,rfl,by decide,by decide⟩
 refine .inl ⟨by simp [*],c1,c2⟩
theorem tk_drop (s:List UInt8) (i:Nat):tk (s.drop i) 0=tk s i:=by
 unfold tk
 simp only [Pf,Z4,Nat.add_zero,List.drop_zero]
theorem u4_cons {a b c d:UInt8} (t:List UInt8):u4 (92 :: 117 :: a :: b :: c :: d :: t)=(match hexN [a,b,c,d] 0 with | some n=>(n:Int) | none=>-1):=by
 unfold u4
 rw [if_pos ⟨by simp,rfl,rfl⟩]
 rfl
theorem Jtc {c r:Nat} {t:List UInt8} (h:Lr c=some r) (hc:c<256):escR (92 :: UInt8.ofNat c :: t)=((r:Int),2):=by
 unfold escR
 rw [if_neg (by simp)]
 have e:at_ (92 :: UInt8.ofNat c :: t) 1=c:=by
  show (UInt8.ofNat c).toNat=c
  simp;omega
 rw [e,h]
theorem Jsg {s:List UInt8} (h2:2≤s.length) (h1:Lr (at_ s 1)=none) (h:(0≤u4 s∧u4 s<55296)∨57344≤u4 s):escR s=(u4 s,6):=by
 unfold escR
 rw [if_neg (by omega),h1]
 simp only
 rw [if_neg (by omega),if_pos (by omega)]
theorem tk_qr {r:Int} (h:Kq r) (t:List UInt8):tk (qr r ++ t) 0=(utf r,(qr r).length)∧at_ (qr r ++ t) 0≠34∧32≤at_ (qr r ++ t) 0:=by
 have h':=h
 unfold Kq at h'
 rcases Jgf r with ⟨hl,n1,n2⟩ | ⟨c,hl,hs,h0,hc⟩
 ·by_cases h32:r<32
  ·have e:qr r=[92,117,48,48] ++ (hex3 (r.toNat+256)).drop 1:=by unfold qr;rw [hl];simp only;rw [if_pos h32]
   obtain ⟨n,rfl⟩:=Int.eq_ofNat_of_zero_le (show 0≤r by omega)
   have hn:n<32:=by omega
   have key:∀ m:Fin 32,hexN ([48,48] ++ (hex3 (m.val+256)).drop 1) 0=some m.val:=by decide
   have k:=key ⟨n,hn⟩
   rw [show ((n:Int)).toNat=n from rfl] at e
   have eu:u4 (qr n ++ t)=n:=by
    rw [e]
    show u4 (92 :: 117 :: 48 :: 48 :: hexd ((n+256) / 16 % 16) :: hexd ((n+256) % 16) :: t)=n
    rw [u4_cons]
    have k':hexN [48,48,hexd ((n+256) / 16 % 16),hexd ((n+256) % 16)] 0=some n:=k
    rw [k']
   have e1:at_ (qr n ++ t) 1=117:=by rw [e];rfl
   have e0:at_ (qr n ++ t) 0=92:=by rw [e];rfl
   have el:(qr n).length=6:=by rw [e];rfl
   refine ⟨?_,by rw [e0];decide,by rw [e0];decide⟩
   unfold tk
   rw [if_pos e0,List.drop_zero,Lv (Jsg (by simp [el];omega) (by rw [e1];rfl) (by rw [eu];omega)) (by decide),eu,el]
  ·have e:qr r=utf r:=by unfold qr;rw [hl];simp only;rw [if_neg h32]
   obtain ⟨h1,h2⟩:=Jeq h t
   have hp:=Ud r
   have hcs:=Rr (s:=utf r ++ t) (i:=0) (by omega)
   rw [e]
   refine ⟨?_,by omega,by omega⟩
   unfold tk
   rw [if_neg (by omega),h1,List.drop_zero,List.take_left]
 ·have e:qr r=[92,UInt8.ofNat c]:=by unfold qr;rw [hl]
  have e0:at_ (qr r ++ t) 0=92:=by rw [e];rfl
  have el:(qr r).length=2:=by rw [e];rfl
  refine ⟨?_,by rw [e0];decide,by rw [e0];decide⟩
  unfold tk
  rw [if_pos e0,List.drop_zero,el,e]
  rw [show [92,UInt8.ofNat c] ++ t=92 :: UInt8.ofNat c :: t from rfl,Lv (Jtc hs hc) (by decide),Int.toNat_of_nonneg h0]
theorem uqF_wq:∀ (rs:List Int) (s t:List UInt8) (f i:Nat) (out:List UInt8),AllR rs→s.drop i=wq rs ++ 34 :: t→s.length<i+f→uqF s f i out=(out ++ utfs rs,i+(wq rs).length+1,0)
 | rs,s,t,0,i,out,_,hd,hf=>by
  have hl:=congrArg List.length hd
  simp at hl
  omega
 | [],s,t,f+1,i,out,_,hd,hf=>by
  have hl:=congrArg List.length hd
  simp [wq] at hl
  have e:at_ s i=34:=by
   rw [show i=i+0 from rfl,← Pf,hd];rfl
  rw [uqF,if_pos (by omega),if_pos e]
  simp [utfs,wq]
 | r :: rs,s,t,f+1,i,out,ha,hd,hf=>by
  have hl:=congrArg List.length hd
  rw [Jhz,List.append_assoc] at hd
  simp at hl
  have hp:=qr_pos r
  obtain ⟨k1,k2,k3⟩:=tk_qr ha.head (wq rs ++ 34 :: t)
  rw [← hd,tk_drop] at k1
  rw [← hd,Pf,Nat.add_zero] at k2 k3
  have hd2:s.drop (i+(qr r).length)=wq rs ++ 34 :: t:=by rw [← List.drop_drop,hd,List.drop_left]
  have ih:=uqF_wq rs s t f (i+(qr r).length) (out ++ utf r) ha.tail hd2 (by omega)
  rw [uqF,if_pos (by omega),if_neg k2,k1,if_neg (by simp only;omega)]
  simp only
  rw [ih,Sv,Jhz,List.append_assoc,List.length_append,Nat.add_assoc i]
theorem uq_wq {rs:List Int} (h:AllR rs) (t:List UInt8):uq (34 :: wq rs ++ 34 :: t)=(utfs rs,(wq rs).length+2,0):=by
 have e:at_ (34 :: wq rs ++ 34 :: t) 0=34:=rfl
 unfold uq
 rw [if_neg (by rw [e];simp),uqF_wq rs _ t _ 1 [] h rfl (by omega)]
 simp only [List.nil_append]
 congr 2;omega
theorem refQ_app (s t:List UInt8):refQ s ++ t=34 :: wrs s ++ 34 :: t:=by simp [refQ]
theorem Jec (s:List UInt8):(refQ s).length=(wrs s).length+2:=by simp [refQ]
theorem Jpw {s:List UInt8} (h:valid s=true) (t:List UInt8):uq (refQ s ++ t)=(s,(refQ s).length,0):=by
 obtain ⟨rs,ha,rfl⟩:=Qq.1 h
 rw [refQ_app,Jec,Jfa rs ha,uq_wq ha]
theorem Jk6:∀ (f:Nat) (s:List UInt8) (i:Nat) (out:List UInt8),1≤i→((uqF s f i out).2.2=0∧2≤(uqF s f i out).2.1∧(uqF s f i out).2.1≤s.length)∨((uqF s f i out).2.2=1∧(uqF s f i out).1=[]∧(uqF s f i out).2.1≤s.length)
 | 0,s,i,out,_=>.inr ⟨rfl,rfl,Nat.le_refl _⟩
 | f+1,s,i,out,h1=>by
  rw [uqF]
  split
  ·split
   ·exact .inl ⟨rfl,by simp only;omega,by simp only;omega⟩
   ·split
    ·exact .inr ⟨rfl,rfl,by simp only;omega⟩
    ·exact Jk6 f s _ _ (by omega)
  ·exact .inr ⟨rfl,rfl,Nat.le_refl _⟩
theorem Jpj (s:List UInt8):((uq s).2.2=0∧2≤(uq s).2.1∧(uq s).2.1≤s.length)∨((uq s).2.2=1∧(uq s).1=[]∧(uq s).2.1≤s.length):=by
 unfold uq
 split
 ·exact .inr ⟨rfl,rfl,Nat.zero_le _⟩
 ·exact Jk6 _ _ _ _ (by omega)
theorem qr_utf' {r:Int} (h:32≤r) (h1:r≠34) (h2:r≠92):qr r=utf r:=by
 rcases Jgf r with ⟨hl,_⟩ | ⟨c,hl,_⟩
 ·unfold qr
  rw [hl]
  simp only
  rw [if_neg (by omega)]
 ·exfalso
  unfold letR at hl
  rw [if_neg (by omega),if_neg (by omega),if_neg (by omega),if_neg (by omega),if_neg (by omega),if_neg (by omega),if_neg (by omega)] at hl
  cases hl
theorem qr_len6 (r:Int):(qr r).length≤6:=by
 have:=Zj r
 unfold qr
 split
 ·simp
 ·split
  ·simp [hex3]
  ·omega
theorem utf_len1 {r:Int} (h0:0≤r) (h:r<128):(utf r).length=1:=by rw [Nw,Vv ⟨h0,h⟩];rfl
theorem Jql {c r:Nat} (h:Lr c=some r):(qr r).length≤2∧r<128:=by
 unfold Lr at h
 repeat' split at h
 all_goals first | (cases h;done)|(obtain rfl:=Option.some.inj h;exact ⟨by decide,by decide⟩)
theorem tk_rune {s:List UInt8} {i:Nat} (hi:i<s.length) (h0:(tk s i).2≠0) (h1:at_ s i≠34) (h2:32≤at_ s i):∃ r,Kq r∧(tk s i).1=utf r∧(utf r).length≤(tk s i).2∧(qr r).length≤(tk s i).2:=by
 unfold tk at h0 ⊢
 split
 ·rename_i h92
  rw [if_pos h92] at h0
  generalize s.drop i=d at *
  have e2:(escR d).2≠0:=fun e=>h0 (by unfold escS;rw [if_pos e])
  have eS:escS d=(utf (escR d).1,(escR d).2):=by unfold escS;rw [if_neg e2]
  refine ⟨(escR d).1,Ja1 e2,by rw [eS],?_⟩
  rw [eS]
  simp only
  have hu:=Zj (escR d).1
  have hq:=qr_len6 (escR d).1
  unfold escR at e2 hu hq ⊢
  split at e2
  ·exact absurd rfl e2
  rename_i hl
  rw [if_neg hl] at hu hq ⊢
  cases hs:Lr (at_ d 1) with
  | some r =>
   obtain ⟨k1,k2⟩:=Jql hs
   simp only
   rw [utf_len1 (by omega) (by omega)]
   exact ⟨by decide,k1⟩
  | none =>
   rw [hs] at e2 hu hq
   simp only at e2 hu hq ⊢
   split at e2
   ·exact absurd rfl e2
   rename_i c1
   rw [if_neg c1] at hu hq ⊢
   split at e2
   ·rename_i c2
    rw [if_pos c2] at hu hq ⊢
    simp only at hu hq ⊢
    omega
   rename_i c2
   rw [if_neg c2] at hu hq ⊢
   split at e2
   ·exact absurd rfl e2
   rename_i c3
   rw [if_neg c3] at hu hq ⊢
   simp only at hu hq ⊢
   omega
 ·rename_i h92
  rw [if_neg h92] at h0
  simp only at h0 ⊢
  have hcs:=Rr (s:=s) (i:=i) h0
  have hl:=Jib h0 hi
  refine ⟨code s i,Qf h0,(Tl h0 hi).symm,by omega,?_⟩
  rw [qr_utf' (by omega) (by omega) (by omega)]
  omega
theorem Jhh:∀ (f:Nat) (s:List UInt8) (i:Nat) (rs:List Int) (x:List UInt8) (n:Nat),1≤i→AllR rs→(utfs rs).length+1≤i→(wq rs).length+1≤i→uqF s f i (utfs rs)=(x,n,0)→∃ ts,AllR ts∧x=utfs ts∧(utfs ts).length+2≤n∧(wq ts).length+2≤n
 | 0,s,i,rs,x,n,_,_,_,_,h=>by simp [uqF] at h
 | f+1,s,i,rs,x,n,h1,ha,hu,hw,h=>by
  rw [uqF] at h
  split at h
  ·rename_i hi
   split at h
   ·simp only [Prod.mk.injEq] at h
    obtain ⟨rfl,rfl,_⟩:=h
    exact ⟨rs,ha,rfl,by omega,by omega⟩
   ·rename_i h34
    split at h
    ·simp at h
    ·rename_i hb
     obtain ⟨r,k1,k2,k3,k4⟩:=tk_rune hi (by omega) h34 (by omega)
     rw [k2,show utfs rs ++ utf r=utfs (rs ++ [r]) by simp [utfs]] at h
     have eu:utfs (rs ++ [r])=utfs rs ++ utf r:=by simp [utfs]
     have ew:wq (rs ++ [r])=wq rs ++ qr r:=by simp [wq]
     refine Jhh f s _ (rs ++ [r]) x n (by omega) (ha.app fun y hy=>?_) (by rw [eu,List.length_append];omega) (by rw [ew,List.length_append];omega) h
     rw [List.mem_singleton.1 hy]
     exact k1
  ·simp at h
theorem Jk8 {s x:List UInt8} {n:Nat} (h:uq s=(x,n,0)):valid x=true∧x.length+2≤n∧(refQ x).length≤n∧n≤s.length:=by
 have he:=Jpj s
 rw [h] at he
 simp only at he
 unfold uq at h
 split at h
 ·simp at h
 ·obtain ⟨ts,ha,rfl,h1,h2⟩:=Jhh _ s 1 [] x n (by omega) (by simp [AllR]) (by simp [utfs]) (by simp [wq]) h
  refine ⟨Qq.2 ⟨ts,ha,rfl⟩,h1,?_,by omega⟩
  rw [Jec,Jfa ts ha]
  exact h2
end Go.LX
