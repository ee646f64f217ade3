/- Of package strconv: FormatInt to the base sixteen. -/
import Derived.Test.YtmejkfclabmijaaGreatDoorPathTextsLxJ
import Derived.Test.YtmejkfclabmijaaGreatDoorPathTextsLxE
set_option linter.unusedSimpArgs false
set_option linter.unusedVariables false
set_option linter.unusedSectionVars false
set_option linter.unnecessarySimpa false
set_option maxRecDepth 100000
set_option maxHeartbeats 2000000
namespace Go.LX
open Go Go.RowKit Go.Proofs
attribute [local irreducible] B2 SWP Hb
theorem d_tz:Det cx 271 [.p (.int .u64 16)] [] (.p (.int .i64 4)) []:=by
 refine Det.of_below (v:=.int .i64 4) (enters_of Tryz.func271 (by kernel_rfl) rfl) rfl (fun _ _ _=>.int _ _) fun β Im w vs hg hf=>?_
 obtain ⟨v,rfl,hv⟩:=fit1 hf
 have:=Yc hv;subst this
 have hc:Lib.ctz 64 16=4:=by decide
 refine (Any7.bits_TrailingZeros Tryz.lays7_27 16 (by decide) w (fun _=>(Jnf hg).tz)).mono fun e w' ⟨he,hw⟩=>?_
 subst hw
 rw [hc] at he
 exact ⟨he,Below.refl _ _⟩
theorem Jfi:Det cx 270 [.p (.int .i64 16)] [] (.p (.bool true)) []:=by
 (refine B2.of_code (X:=cx) false [] (by simp) Tryz.func270 (by kernel_rfl) rfl (by simp only [List.length_cons,List.length_nil,Tryz.ntmps270];decide) (by simp) ?_;refine Ax hm _ _ _ ?_;simp only [Tryz.ntmps270,Tryz.results270,Ah,Bm,Cn,Ab,Bd,A1,Bc,Bf,A0,Cw,Ca,A9,Aj,B8,Au,Bt,Ar,M5,Jg3,G0,Ag,Ae,A3,Bs,Cs,Cr,A6,A7,B9,Av,Ap,Al,B7,B5,Af,Am,Ao,Co,Ay,A2,Ad,Ac,argW,List.map_cons,List.map_nil,beq_iff_eq,Nat.reduceLT,Nat.reduceEqDiff,Int.reduceSub,and_true,Cc,↓reduceIte,reduceCtorEq,L.p.injEq,PV.bool.injEq,Bool.and_true,Bool.or_false,Bool.or_true])
 decide
theorem f_z133:Jf Tryz.prog 253=some [.int .u8 0,.int .u8 0,.int .u8 0,.int .u8 0,.int .u8 0,.int .u8 0,.int .u8 0,.int .u8 0,.int .u8 0,.int .u8 0,.int .u8 0,.int .u8 0,.int .u8 0,.int .u8 0,.int .u8 0,.int .u8 0,.int .u8 0,.int .u8 0,.int .u8 0,.int .u8 0,.int .u8 0,.int .u8 0,.int .u8 0,.int .u8 0,.int .u8 0,.int .u8 0,.int .u8 0,.int .u8 0,.int .u8 0,.int .u8 0,.int .u8 0,.int .u8 0,.int .u8 0,.int .u8 0,.int .u8 0,.int .u8 0,.int .u8 0,.int .u8 0,.int .u8 0,.int .u8 0,.int .u8 0,.int .u8 0,.int .u8 0,.int .u8 0,.int .u8 0,.int .u8 0,.int .u8 0,.int .u8 0,.int .u8 0,.int .u8 0,.int .u8 0,.int .u8 0,.int .u8 0,.int .u8 0,.int .u8 0,.int .u8 0,.int .u8 0,.int .u8 0,.int .u8 0,.int .u8 0,.int .u8 0,.int .u8 0,.int .u8 0,.int .u8 0,.int .u8 0]:=by kernel_rfl
theorem wc1:IntKind.u64.wrap 16=16:=by decide
theorem wc2:IntKind.u64.wrap 15=15:=by decide
theorem wc3:IntKind.u64.wrap 4=4:=by decide
theorem wc4:IntKind.i64.wrap 64=64:=by decide
theorem wc5:IntKind.i64.wrap 63=63:=by decide
theorem wc6:IntKind.i64.wrap 62=62:=by decide
theorem and15 (x:Nat):IntKind.u64.wrap (BitVec.ofInt IntKind.u64.bits (x:Int) &&& BitVec.ofInt IntKind.u64.bits 15).toNat=((x % 16:Nat):Int):=by
 have e:(BitVec.ofInt IntKind.u64.bits (x:Int) &&& BitVec.ofInt IntKind.u64.bits 15).toNat=x % 16:=by
  show (BitVec.ofInt 64 (x:Int) &&& BitVec.ofInt 64 15).toNat=x % 16
  rw [BitVec.toNat_and,show (BitVec.ofInt 64 15).toNat=2 ^ 4 - 1 by decide,Nat.and_two_pow_sub_one_eq_mod]
  simp
 rw [e,Jc6 (by omega) (by omega)]
theorem fd4 (x:Nat):(x:Int).fdiv (2 ^ min 4 IntKind.u64.bits)=((x / 16:Nat):Int):=by
 rw [Int.fdiv_eq_ediv_of_nonneg _ (by decide)];simp [IntKind.bits]
def hexds:List UInt8:=[48,49,50,51,52,53,54,55,56,57,97,98,99,100,101,102,103,104,105,106,107,108,109,110,111,112,113,114,115,116,117,118,119,120,121,122]
def hexd (n:Nat):UInt8:=hexds.getD n 0
theorem Ys (u:Nat) (h1:256≤u) (h2:u<4096):Det cx 255 [.p .snil,.p (.int .u64 u),.p (.int .i64 16),.p (.bool false),.p (.bool false)] [] (.tup [.snil,.str [hexd (u / 16 / 16),hexd (u / 16 % 16),hexd (u % 16)]]) []:=by
 skip
 (refine B2.of_code (X:=cx) false [] (by simp) Tryz.func255 (by kernel_rfl) rfl (by simp only [List.length_cons,List.length_nil,Tryz.ntmps255];decide) (by simp) ?_;refine Ax hm _ _ _ ?_;simp only [Tryz.ntmps255,Tryz.results255,Cb,Ah,Bm,Br,Ab,Bd,A1,Da,Bc,Ct,Bf,A0,Ch,Cw,Ca,F6,E4,A9,Aj,B8,D0,Hv,Cg,Bo,Bq,C2,Dq,D1,Dn,Au,Bt,Ar,G0,Dm,Je,Gy,Hw,Cu,Ag,Ae,A3,Cf,Bv,Bi,Bz,Bx,A4,B6,Bh,Az,A5,B4,Ez,Cl,Ad,Ac,Bn,Bg,Bb,argW,List.map_cons,List.map_nil,List.getD_cons_zero,List.getD_cons_succ,List.append_nil,List.flatMap_cons,List.flatMap_nil,decide_eq_true_eq,beq_iff_eq,Nat.reduceLT,Nat.reduceEqDiff,Nat.reduceAdd,Int.reduceLT,Int.reduceEq,true_and,Cc,Bw,↓reduceIte,reduceCtorEq,Nat.zero_add,Bool.false_eq_true,Bool.true_and,Bool.or_true,f_z133])
 (repeat' (first | (refine iteI (fun h=>?_) (fun h=>?_))|(refine B1 (by first | omega | (simp (disch:=omega) only [Aa,Ak,Ai] at *;omega)) ?_;intro b hb)|(refine And.intro (by first | omega | (simp (disch:=omega) only [Aa,Ak,Ai] at *;omega)) ?_)|((first | (refine Ba hm (by rfl) (by kernel_rfl) ?_)|(refine Det.use (d_tz) ?_)|(refine Det.useQ (d_tz) ?_)|(refine Det.use (Jfi) ?_)|(refine Det.useQ (Jfi) ?_));simp only [Ah,Bm,Br,Ce,He,Ab,Bd,A1,Bc,Ct,Bf,A0,Ch,Ca,A9,Aj,B8,Kb,Cg,Bq,Au,Bt,Ar,M5,L4,Hz,Kl,Hn,Ag,Ae,A3,Cf,Bv,Bi,Bz,Bx,A4,Bp,B6,Bh,Az,A5,Cl,Ad,Ac,List.map_cons,List.map_nil,List.append_nil,List.flatMap_cons,List.flatMap_nil,Nat.reduceLT,Nat.reduceEqDiff,Int.reduceSub,Cc,Bw,↓reduceIte,reduceCtorEq,Bool.or_true,Uq,Jhr,Jan,wc1,wc2,wc3])|(exact True.intro)|(exfalso;omega)))
 (refine SWP.rounds 4 ?_;refine SWP.roundI hm ?_;simp only [Cb,Ah,Bm,Br,Ce,Eh,Cn,Ab,Ci,Bk,B0,Bd,A1,Bc,C1,Bf,A0,Ca,F6,A9,Aj,B8,Kb,Fk,Cv,I7,E7,Bo,Bq,Au,Bt,Ar,Jgw,M5,Jg3,Lc,Xk,L4,Je5,Kl,Ms,Nf,Ly,Xb,Cj,Jex,Ib,Hf,Ev,D5,Zu,Jme,Jtl,Jev,Ma,Iz,Fj,Ii,Ef,Ag,Ae,A3,F4,Bs,Cs,Cr,A6,A7,B9,Av,Ap,Al,B7,B5,Af,Am,Ao,Cy,Ay,Aw,Cp,Dx,Dk,I9,Kh,C7,El,Cz,F1,A2,Jf1,Jeh,Ad,Ac,C6,Bg,Bb,List.map_cons,List.map_nil,List.length_cons,List.length_nil,List.cons_append,List.nil_append,List.append_nil,List.take_succ_cons,List.take_zero,List.take_nil,List.drop_succ_cons,List.drop_zero,List.drop_nil,decide_eq_true_eq,ne_eq,not_false_eq_true,Nat.reduceLT,Nat.reduceLeDiff,Nat.reduceEqDiff,Nat.reduceAdd,Nat.reduceSub,Nat.reduceMul,Int.reduceToNat,Int.reduceLE,Int.reduceSub,true_and,and_true,Cc,↓reduceIte,reduceCtorEq,Int.toNat_natCast,Int.natCast_nonneg,Nat.zero_add,PV.str.injEq,L.tup.injEq,List.cons.injEq,Bool.false_eq_true,Bool.true_and,Bool.and_true,Bool.or_false,Bool.or_true,Qs,f_c5,Hi,Qu,Jhv,wc4,and15,fd4])
 (repeat' (first | (refine iteI (fun h=>?_) (fun h=>?_))|(refine B1 (by first | omega | (simp (disch:=omega) only [Aa,Ak,Ai] at *;omega)) ?_;intro b hb)|(refine And.intro (by first | omega | (simp (disch:=omega) only [Aa,Ak,Ai] at *;omega)) ?_)|((first | (refine Ba hm (by rfl) (by kernel_rfl) ?_));simp only [Dh])|(refine SWP.roundI hm ?_;simp only [Cb,Ah,Bm,Br,Ce,Eh,Cn,Ab,Ci,Bk,B0,Bd,A1,Bc,C1,Bf,A0,Ca,F6,A9,Aj,B8,Kb,Fk,Cv,I7,E7,Bo,Bq,Au,Bt,Ar,Jgw,M5,Jg3,Lc,Xk,L4,Je5,Kl,Ms,Nf,Ly,Xb,Cj,Jex,Ib,Hf,Ev,D5,Zu,Jme,Jtl,Jev,Ma,Iz,Fj,Ii,Ef,Ag,Ae,A3,F4,Bs,Cs,Cr,A6,A7,B9,Av,Ap,Al,B7,B5,Af,Am,Ao,Cy,Ay,Aw,Cp,Dx,Dk,I9,Kh,C7,El,Cz,F1,A2,Jf1,Jeh,Ad,Ac,C6,Bg,Bb,List.map_cons,List.map_nil,List.length_cons,List.length_nil,List.cons_append,List.nil_append,List.take_succ_cons,List.take_zero,List.take_nil,List.drop_succ_cons,List.drop_zero,decide_eq_true_eq,ne_eq,not_false_eq_true,Nat.reduceLT,Nat.reduceLeDiff,Nat.reduceEqDiff,Nat.reduceAdd,Nat.reduceSub,Nat.reduceMul,Int.reduceToNat,Int.reduceLE,Int.reduceSub,true_and,and_true,Cc,↓reduceIte,reduceCtorEq,Int.toNat_natCast,Int.natCast_nonneg,Nat.zero_add,PV.str.injEq,L.tup.injEq,List.cons.injEq,Bool.false_eq_true,Bool.true_and,Bool.and_true,Bool.or_false,Bool.or_true,Qs,f_c5,Hi,Qu,Jhv,wc5,wc6,and15,fd4])|(exact True.intro)|(exfalso;omega)))
 exact ⟨rfl,rfl,rfl⟩
def hex3 (u:Nat):List UInt8:=[hexd (u / 16 / 16),hexd (u / 16 % 16),hexd (u % 16)]
theorem wcn {u:Nat} (h:u<4096):IntKind.u64.wrap (u:Int)=u:=Jc6 (by omega) (by omega)
theorem Uv (u:Nat) (h1:256≤u) (h2:u<4096):Det cx 226 [.p (.int .i64 u),.p (.int .i64 16)] [] (.p (.str (hex3 u))) []:=by
 skip
 (refine B2.of_code (X:=cx) false [] (by simp) Tryz.func226 (by kernel_rfl) rfl (by simp only [List.length_cons,List.length_nil,Tryz.ntmps226];decide) (by simp) ?_;refine Ax hm _ _ _ ?_;simp only [Tryz.ntmps226,Tryz.results226,Cb,Ah,Bm,Br,Ab,Bd,A1,Bc,Bf,A0,Ch,Cw,Ca,F6,E4,A9,Aj,B8,Kb,Cg,Bq,Au,Bt,Ar,G0,Dm,L4,Hz,Kl,Hn,Ag,Ae,A3,Cf,Bv,Bi,Bz,Bx,A4,B6,Bh,Az,A5,Cl,Ad,Ac,argW,List.map_cons,List.map_nil,List.append_nil,List.flatMap_cons,List.flatMap_nil,beq_iff_eq,Nat.reduceLT,Nat.reduceEqDiff,Int.reduceEq,Cc,Bw,↓reduceIte,reduceCtorEq,Nat.zero_add,Bool.or_true,f_u2,Jan,wcn h2])
 (repeat' (first | (refine iteI (fun h=>?_) (fun h=>?_))|(refine B1 (by first | omega | (simp (disch:=omega) only [Aa,Ak,Ai] at *;omega)) ?_;intro b hb)|(refine And.intro (by first | omega | (simp (disch:=omega) only [Aa,Ak,Ai] at *;omega)) ?_)|((first | (refine Ba hm (by rfl) (by kernel_rfl) ?_)|(refine Det.use (Ys u h1 h2) ?_)|(refine Det.useQ (Ys u h1 h2) ?_));simp only [Ah,Bm,Cn,Ab,Bd,A1,Bc,Ct,Bf,A9,Aj,Ek,Bl,G8,Eb,Ag,Ae,A3,Bp,Et,Bs,Cs,Cr,A6,A7,B9,Av,Ap,Al,B7,B5,Af,Am,Ao,Co,Ay,A2,Ad,Ac,List.map_cons,List.map_nil,List.getElem?_cons_zero,List.getElem?_cons_succ,Nat.reduceLT,Nat.reduceEqDiff,and_true,↓reduceIte,L.p.injEq,PV.str.injEq,Bool.and_true,wcn h2])|(exact True.intro)|(exfalso;omega)))
 rfl
theorem Jbk (u:Nat) (h1:256≤u) (h2:u<4096):Det cx 181 [.p (.int .i64 u),.p (.int .i64 16)] [] (.p (.str (hex3 u))) []:=by
 (refine B2.of_code (X:=cx) false [] (by simp) Tryz.func181 (by kernel_rfl) rfl (by simp only [List.length_cons,List.length_nil,Tryz.ntmps181];decide) (by simp) ?_;refine Ax hm _ _ _ ?_;simp only [Tryz.ntmps181,Tryz.results181,Ah,Bm,Ab,Bd,A1,Bc,Bf,A0,Ch,F6,A9,Aj,Cg,Ag,Ae,A3,Cf,Bv,Bi,Bz,Bx,A4,B6,Bh,Az,A5,Cl,Ad,Ac,argW,List.map_cons,List.map_nil,List.append_nil,List.flatMap_cons,List.flatMap_nil,Nat.reduceLT,Nat.reduceEqDiff,Cc,Bw,↓reduceIte,reduceCtorEq,Nat.zero_add])
 (repeat' (first | (refine iteI (fun h=>?_) (fun h=>?_))|(refine B1 (by first | omega | (simp (disch:=omega) only [Aa,Ak,Ai] at *;omega)) ?_;intro b hb)|(refine And.intro (by first | omega | (simp (disch:=omega) only [Aa,Ak,Ai] at *;omega)) ?_)|((first | (refine Ba hm (by rfl) (by kernel_rfl) ?_)|(refine Det.use (Uv u h1 h2) ?_)|(refine Det.useQ (Uv u h1 h2) ?_));simp only [Cn,Ab,Bd,A1,Bc,Ct,Bf,Aj,Ag,Ae,A3,Bp,B6,Bs,Cs,Cr,A6,A7,B9,Av,Ap,Al,B7,B5,Af,Am,Ao,Co,Ay,A2,Ad,Ac,Nat.reduceLT,↓reduceIte,and_self])|(exact True.intro)|(exfalso;omega)))
def low (c:Nat):Nat:=if c / 32 % 2=1 then c else c+32
theorem or32 (c:Nat) (h:c≤255):IntKind.u8.wrap (BitVec.ofInt IntKind.u8.bits (c:Int) ||| BitVec.ofInt IntKind.u8.bits 32).toNat=(low c:Int):=by
 have key:∀ m:Fin 256,IntKind.u8.wrap (BitVec.ofInt IntKind.u8.bits (m.val:Int) ||| BitVec.ofInt IntKind.u8.bits 32).toNat=(low m.val:Int):=by decide
 exact key ⟨c,by omega⟩
theorem Jp8 (c:Nat) (h:c≤255):Det cx 272 [.p (.int .u8 c)] [] (.p (.int .u8 (low c))) []:=by
 (refine B2.of_code (X:=cx) false [] (by simp) Tryz.func272 (by kernel_rfl) rfl (by simp only [List.length_cons,List.length_nil,Tryz.ntmps272];decide) (by simp) ?_;refine Ax hm _ _ _ ?_;simp only [Tryz.ntmps272,Tryz.results272,Ah,Bm,Cn,Ab,Bd,A1,Bc,Bf,A0,Ca,A9,Aj,B8,Au,Bt,Ar,u_or,Ag,Ae,A3,Bs,Cs,Cr,A6,A7,B9,Av,Ap,Al,B7,B5,Af,Am,Ao,Co,Ay,A2,Ad,Ac,argW,List.map_cons,List.map_nil,Nat.reduceLT,true_and,and_true,Cc,↓reduceIte,reduceCtorEq,L.p.injEq,PV.int.injEq,Bool.true_and,Bool.and_true,Bool.or_true])
 rw [or32 c h]
def hexv (c:Nat):Option Nat:=if 48≤c∧c≤57 then some (c - 48) else if 97≤c∧c≤102 then some (c - 87) else if 65≤c∧c≤70 then some (c - 55) else none
def hexN:List UInt8→Nat→Option Nat
 | [],a=>some a
 | c :: s,a=>match hexv c.toNat with
  | some d=>hexN s (a * 16+d)
  | none=>none
def Jmr (o:Option Nat):L:=match o with
 | some n=>.tup [.int .u64 n,.nifc]
 | none=>.tup [.int .u64 0,.ifi 213 .i64 2]
theorem at_dflt (s:List UInt8) (i:Nat):(s.getD i default).toNat=at_ s i:=rfl
theorem wc7:IntKind.u64.wrap (1 * 2 ^ min 16 IntKind.u64.bits)=65536:=by decide
theorem wc8:IntKind.u64.wrap 65535=65535:=by decide
theorem Pz {s:List UInt8} {i n:Nat} (h:i<s.length):hexN (s.drop i) n=(match hexv (at_ s i) with | some d=>hexN (s.drop (i+1)) (n * 16+d) | none=>none):=by
 rw [List.drop_eq_getElem_cons h]
 simp only [hexN]
 rw [Jfg h]
theorem Jrg (c:Nat):(c / 32 % 2=1∧low c=c)∨(c / 32 % 2≠1∧low c=c+32):=by
 unfold low;split <;> omega
theorem Vc (s:List UInt8) (hs:s.length=4):Det cx 256 [.p (.str s),.p (.int .i64 16),.p (.int .i64 16)] [] (Jmr (hexN s 0)) []:=by
 skip
 (refine B2.of_code (X:=cx) false [] (by simp) Tryz.func256 (by kernel_rfl) rfl (by simp only [List.length_cons,List.length_nil,Tryz.ntmps256];decide) (by simp) ?_;refine Ax hm _ _ _ ?_;simp only [Tryz.ntmps256,Tryz.results256,Cb,Ah,Bm,Br,Ce,He,Cn,Ab,B3,Bk,Bd,A1,Da,Bc,Bf,A0,Cw,Ca,F6,Lf,A9,Aj,B8,Kb,D0,Dw,Jca,Bq,C2,Dq,Db,D1,Dn,Au,Ep,Bt,Ar,u_shl,M5,G0,Dm,Pr,Je,Nh,L4,Hz,Jhj,Jl5,Kl,Hn,Ds,D4,Ag,Ae,A3,Jpe,Jpf,Jb9,Bs,Cs,Cr,A6,A7,B9,Av,Ap,Al,B7,B5,Af,Am,Ao,Cy,Ay,A2,Ad,Ac,argW,List.map_cons,List.map_nil,List.getD_cons_zero,List.getD_cons_succ,List.length_map,decide_eq_true_eq,beq_iff_eq,ne_eq,Nat.reduceLT,Nat.reduceEqDiff,Nat.reduceAdd,Int.reduceToNat,Int.reduceLT,Int.reduceLE,Int.reduceEq,Int.reduceSub,true_and,and_true,Cc,↓reduceIte,reduceCtorEq,Nat.zero_add,Ai,Bool.false_eq_true,Bool.true_and,Bool.and_true,Bool.or_false,Bool.or_true,beq_self_eq_true,Uq,Qs,Hi,Jhr,Qu,Jix,wc1,wc7,wc8])
 (repeat' (first | (refine iteI (fun h=>?_) (fun h=>?_))|(refine B1 (by first | omega | (simp (disch:=omega) only [Aa,Ak,Ai] at *;omega)) ?_;intro b hb)|(refine And.intro (by first | omega | (simp (disch:=omega) only [Aa,Ak,Ai] at *;omega)) ?_)|((first | (refine Ba hm (by rfl) (by kernel_rfl) ?_));simp only [Dh])|(exact True.intro)|(exfalso;omega)))
 refine SWP.loop (fun x:Nat×Nat=>⟨Fp 172 [(1,.p (.int .i64 16)),(2,.p (.int .i64 16)),(8,.p (.bool false)),(9,.p (.str s)),(10,.p (.int .u64 1152921504606846976)),(11,.p (.int .u64 65535)),(12,.p (.bool false)),(13,.p (.int .u64 x.2)),(99,.p (.sl (s.map fun c=>[.int .u8 c.toNat]))),(100,.p (.int .i64 s.length)),(101,.p (.int .i64 x.1))],[]⟩) (fun x=>x.1≤4∧x.2<16 ^ x.1∧hexN (s.drop x.1) x.2=hexN s 0) (fun x=>4 - x.1) (0,0) (St.le_slots (by simp only [Cd,Ck,Ac,Be,Aq,Nat.reduceEqDiff,reduceIte,Nat.reduceLT,Nat.reduceLeDiff];simp (disch:=omega) [Aq,A8,Cm,Aa] <;> (repeat' apply And.intro) <;> omega) (by simp (disch:=omega) [Dc,Ee,C9,Bj,Aq,A8,Cm,Aa]) (by simp [De])) ⟨by omega,by decide,rfl⟩ ?_
 rintro ⟨i,n⟩ ⟨h1,h2,h3⟩
 (refine Ax hm _ _ _ ?_;simp only [Cb,Ah,Bm,Br,Ce,Eh,Cn,Ab,Ci,B3,Bk,B0,Ea,Bd,A1,Da,Bc,D9,Bf,A0,Ch,Cw,Ca,Lf,A9,Aj,B8,Kb,D0,Ed,Cv,Cg,Jca,Bl,Jkz,Bq,C2,Dq,Db,D1,Dn,Au,Bt,Ar,E8,M5,Jhb,G0,Dm,Pr,Je,Lc,L4,Hz,Kl,Hn,Eo,Cj,Ei,G8,C5,Dd,Ag,Ae,A3,Cf,Bv,Bi,Bz,Bx,A4,B6,Bh,Az,A5,Jpe,Jpf,Jb9,Bs,Cs,Cr,A6,A7,B9,Av,Ap,Al,B7,B5,Af,Am,Ao,Cy,Ay,Cl,A2,Ad,Ac,Dy,List.map_cons,List.map_nil,List.getD_cons_zero,List.getD_cons_succ,List.length_cons,List.length_nil,List.append_nil,List.flatMap_cons,List.flatMap_nil,List.getElem?_cons_zero,decide_eq_true_eq,beq_iff_eq,ne_eq,Nat.reduceLT,Nat.reduceEqDiff,true_and,and_true,Cc,Bw,↓reduceIte,Int.toNat_natCast,Int.natCast_nonneg,Nat.zero_add,Bool.false_eq_true,Bool.true_and,Bool.and_true,Bool.or_false,Bool.or_true,Uq,Qs,f_a5,f_c5,Pq,Jan,Jix,wc1,at_dflt])
 simp only at h1 h2 h3
 have hL:=Jrg (at_ s i)
 have hA:=Nd s i
 have hP:i<4→n<4096:=fun h=>Nat.lt_of_lt_of_le h2 (Nat.le_trans (Nat.pow_le_pow_right (by decide) (show i≤3 by omega)) (by decide))
 have hS:i<4→∀ d<16,n * 16+d<16 ^ (i+1):=fun h d hd=>by rw [Nat.pow_succ];omega
 (repeat' (first | (refine iteI (fun h=>?_) (fun h=>?_))|(refine B1 (by first | omega | (simp (disch:=omega) only [Aa,Ak,Ai] at *;omega)) ?_;intro b hb)|(refine And.intro (by first | omega | (simp (disch:=omega) only [Aa,Ak,Ai] at *;omega)) ?_)|((first | (refine Ba hm (by rfl) (by kernel_rfl) ?_)|(refine Det.use (Jp8 _ (Nd s i)) ?_)|(refine Det.useQ (Jp8 _ (Nd s i)) ?_));simp only [Cb,Ah,Bm,Br,Cn,Ab,B3,Bk,Ea,Bd,A1,Da,Bc,D9,Ct,Bf,A0,Ch,Cw,Ca,A9,Aj,B8,Kb,D0,Cg,Jca,Bq,C2,Dq,Db,D1,Dn,Au,Bt,Ar,E8,M5,Jhb,Dm,Pr,Je,Lc,L4,Hz,Kl,Hn,Ag,Ae,A3,Cf,Bv,Bi,Bz,Bx,A4,Bp,B6,Bh,Az,A5,Jpe,Jpf,Jb9,Bs,Cs,Cr,A6,A7,B9,Av,Ap,Al,B7,B5,Af,Am,Ao,Cy,Ay,Cl,A2,Ad,Ac,Dy,List.map_cons,List.map_nil,List.getD_cons_zero,List.getD_cons_succ,List.append_nil,List.flatMap_cons,List.flatMap_nil,decide_eq_true_eq,ne_eq,Nat.reduceLT,Nat.reduceEqDiff,true_and,and_true,Cc,Bw,↓reduceIte,Bool.false_eq_true,Bool.true_and,Bool.and_true,Bool.or_false,Bool.or_true,Uq,Qs,Jan,Jix,wc1])|(exact True.intro)|(exfalso;omega)))
 all_goals (try simp only [F9,Jg5] at *)
 all_goals first
  | (exfalso;omega)
  | (
   have e:hexN s 0=none:=by
    rw [← h3,Pz (by omega),show hexv (at_ s i)=none by unfold hexv;rw [if_neg (by omega),if_neg (by omega),if_neg (by omega)]]
   rw [e];rfl)
  | (
   have e:hexN s 0=some n:=by
    rw [← h3,List.drop_eq_nil_of_le (by omega)];rfl
   rw [e];rfl)
  | (
   have h57:at_ s i≤57:=by omega
   obtain ⟨d,hd,hv,ho⟩:∃ d,d<16∧hexv (at_ s i)=some d∧(d:Int)=at_ s i - 48:=⟨at_ s i - 48,by omega,by unfold hexv;rw [if_pos (by omega)],by omega⟩
   refine ⟨(i+1,n * 16+d),⟨by simp only;omega,hS (by omega) d hd,?_⟩,by simp only;omega,(St.le_slots (by simp only [Cd,Ck,Ac,Be,Aq,Nat.reduceEqDiff,reduceIte,Nat.reduceLT,Nat.reduceLeDiff];simp (disch:=omega) [Aq,A8,Cm,Aa] <;> (repeat' apply And.intro) <;> omega) (by simp (disch:=omega) [Dc,Ee,C9,Bj,Aq,A8,Cm,Aa]) (by simp [De]))⟩
   simp only;rw [← h3,Pz (i:=i) (n:=n) (by omega),hv])
  | (
   obtain ⟨d,hd,hv,ho⟩:∃ d,d<16∧hexv (at_ s i)=some d∧(d:Int)=low (at_ s i) - 87:=by
    by_cases h97:97≤at_ s i
    ·exact ⟨at_ s i - 87,by omega,by unfold hexv;rw [if_neg (by omega),if_pos (by omega)],by omega⟩
    ·exact ⟨at_ s i - 55,by omega,by unfold hexv;rw [if_neg (by omega),if_neg (by omega),if_pos (by omega)],by omega⟩
   refine ⟨(i+1,n * 16+d),⟨by simp only;omega,hS (by omega) d hd,?_⟩,by simp only;omega,(St.le_slots (by simp only [Cd,Ck,Ac,Be,Aq,Nat.reduceEqDiff,reduceIte,Nat.reduceLT,Nat.reduceLeDiff];simp (disch:=omega) [Aq,A8,Cm,Aa] <;> (repeat' apply And.intro) <;> omega) (by simp (disch:=omega) [Dc,Ee,C9,Bj,Aq,A8,Cm,Aa]) (by simp [De]))⟩
   simp only;rw [← h3,Pz (i:=i) (n:=n) (by omega),hv])
end Go.LX
namespace Go.LX
open Go
def dec (s:List UInt8) (i:Nat):Nat×Nat:=Utf8.decode ⟨⟨s⟩⟩ i
def ct (s:List UInt8) (k:Nat):Bool:=decide (k<s.length) && (decide (128≤at_ s k) && decide (at_ s k<192))
def rlen (s:List UInt8) (i:Nat):Nat :=
 if at_ s i<128 then 1
 else if 194≤at_ s i∧at_ s i<224∧ct s (i+1)=true then 2
 else if 224≤at_ s i∧at_ s i<240∧ct s (i+1)=true∧ct s (i+2)=true then
  (if (at_ s i=224∧at_ s (i+1)<160)∨(at_ s i=237∧160≤at_ s (i+1)) then 0 else 3)
 else if 240≤at_ s i∧at_ s i<245∧ct s (i+1)=true∧ct s (i+2)=true∧ct s (i+3)=true then
  (if (at_ s i=240∧at_ s (i+1)<144)∨(at_ s i=244∧144≤at_ s (i+1)) then 0 else 4)
 else 0
def code (s:List UInt8) (i:Nat):Nat :=
 if at_ s i<128 then at_ s i
 else if at_ s i<224 then at_ s i % 32 * 64+at_ s (i+1) % 64
 else if at_ s i<240 then at_ s i % 16 * 4096+at_ s (i+1) % 64 * 64+at_ s (i+2) % 64
 else at_ s i % 8 * 262144+at_ s (i+1) % 64 * 4096+at_ s (i+2) % 64 * 64+at_ s (i+3) % 64
theorem get_at (s:List UInt8) (k:Nat):((⟨⟨s⟩⟩:ByteArray).get! k).toNat=at_ s k:=by
 simp only [ByteArray.get!,at_,List.getD_eq_getElem?_getD]
 by_cases h:k<s.length
 ·simp [h]
 ·simp [h];rfl
theorem Vp {s:List UInt8} {k:Nat}:ct s k=true ↔ k<s.length∧at_ s k / 64=2:=by
 simp only [ct,Bool.and_eq_true,decide_eq_true_eq]
 omega
theorem Jq4 (c:Nat):Utf8.valid (c:Int)=true ↔ c<55296∨(57344≤c∧c≤1114111):=by
 simp only [Utf8.valid,Bool.or_eq_true,Bool.and_eq_true,decide_eq_true_eq]
 omega
theorem Qd (s:List UInt8) (i:Nat):dec s i=if rlen s i=0 then (65533,1) else (code s i,rlen s i):=by
 have hb:=Nd s i
 unfold dec Utf8.decode
 simp only [get_at,Nat.add_zero]
 have hsz:(⟨⟨s⟩⟩:ByteArray).size=s.length:=rfl
 simp only [hsz,Bool.and_eq_true,beq_iff_eq,decide_eq_true_eq,Utf8.runeError,Jq4]
 unfold rlen code
 simp only [Vp]
 by_cases h1:at_ s i<128
 ·simp [h1]
 by_cases h2:at_ s i<224
 ·by_cases h2':i+1<s.length∧at_ s (i+1) / 64=2
  ·have e5:¬ 224≤at_ s i:=by omega
   have e6:¬ 240≤at_ s i:=by omega
   by_cases h194:194≤at_ s i
   ·have e1:at_ s i / 32=6:=by omega
    have e2:128≤at_ s i % 32 * 64+at_ s (i+1) % 64:=by omega
    simp [h1,h2,h2',h194,e1,e2]
   ·by_cases h192:192≤at_ s i
    ·have e1:at_ s i / 32=6:=by omega
     have e2:¬ 128≤at_ s i % 32 * 64+at_ s (i+1) % 64:=by omega
     simp [h1,h2,h2',h194,e1,e2,e5,e6]
    ·have e1:¬ at_ s i / 32=6:=by omega
     have e3:¬ at_ s i / 16=14:=by omega
     have e4:¬ at_ s i / 8=30:=by omega
     simp [h1,h2,h2',h194,e1,e3,e4,e5,e6]
  ·have e3:¬ at_ s i / 16=14:=by omega
   have e4:¬ at_ s i / 8=30:=by omega
   have e5:¬ 224≤at_ s i:=by omega
   have e6:¬ 240≤at_ s i:=by omega
   simp [h1,h2,h2',e3,e4,e5,e6]
 have e1:¬ at_ s i / 32=6:=by omega
 by_cases h3:at_ s i<240
 ·have e3:at_ s i / 16=14:=by omega
  have e4:¬ at_ s i / 8=30:=by omega
  have e5:224≤at_ s i:=by omega
  have e6:¬ 240≤at_ s i:=by omega
  by_cases c1:i+1<s.length∧at_ s (i+1) / 64=2
  ·by_cases c2:i+2<s.length∧at_ s (i+2) / 64=2
   ·by_cases hb2:(at_ s i=224∧at_ s (i+1)<160)∨(at_ s i=237∧160≤at_ s (i+1))
    ·have:¬ (2048≤at_ s i % 16 * 4096+at_ s (i+1) % 64 * 64+at_ s (i+2) % 64∧(at_ s i % 16 * 4096+at_ s (i+1) % 64 * 64+at_ s (i+2) % 64<55296∨57344≤at_ s i % 16 * 4096+at_ s (i+1) % 64 * 64+at_ s (i+2) % 64∧at_ s i % 16 * 4096+at_ s (i+1) % 64 * 64+at_ s (i+2) % 64≤1114111)):=by omega
     simp only [h1,h2,e1,e3,e5,h3,c1,c2,hb2,and_true,true_and,if_true,if_false,false_and,and_false,and_self,ge_iff_le,this]
    ·have:(2048≤at_ s i % 16 * 4096+at_ s (i+1) % 64 * 64+at_ s (i+2) % 64∧(at_ s i % 16 * 4096+at_ s (i+1) % 64 * 64+at_ s (i+2) % 64<55296∨57344≤at_ s i % 16 * 4096+at_ s (i+1) % 64 * 64+at_ s (i+2) % 64∧at_ s i % 16 * 4096+at_ s (i+1) % 64 * 64+at_ s (i+2) % 64≤1114111)):=by omega
     simp only [h1,h2,e1,e3,e5,h3,c1,c2,hb2,and_true,true_and,if_true,if_false,false_and,and_false,and_self,ge_iff_le,this]
     simp
   ·simp [h1,h2,e1,e3,e4,e5,e6,h3,c2]
  ·simp [h1,h2,e1,e3,e4,e5,e6,h3,c1]
 ·have e3:¬ at_ s i / 16=14:=by omega
  have e5:240≤at_ s i:=by omega
  by_cases h4:at_ s i<248
  ·have e4:at_ s i / 8=30:=by omega
   by_cases c1:i+1<s.length∧at_ s (i+1) / 64=2
   ·by_cases c2:i+2<s.length∧at_ s (i+2) / 64=2
    ·by_cases c3:i+3<s.length∧at_ s (i+3) / 64=2
     ·by_cases h5:at_ s i<245
      ·by_cases hb2:(at_ s i=240∧at_ s (i+1)<144)∨(at_ s i=244∧144≤at_ s (i+1))
       ·have:¬ (65536≤at_ s i % 8 * 262144+at_ s (i+1) % 64 * 4096+at_ s (i+2) % 64 * 64+at_ s (i+3) % 64∧(at_ s i % 8 * 262144+at_ s (i+1) % 64 * 4096+at_ s (i+2) % 64 * 64+at_ s (i+3) % 64<55296∨57344≤at_ s i % 8 * 262144+at_ s (i+1) % 64 * 4096+at_ s (i+2) % 64 * 64+at_ s (i+3) % 64∧at_ s i % 8 * 262144+at_ s (i+1) % 64 * 4096+at_ s (i+2) % 64 * 64+at_ s (i+3) % 64≤1114111)):=by omega
        simp only [h1,h2,h3,e1,e3,e4,e5,h5,c1,c2,c3,hb2,and_true,true_and,if_true,if_false,false_and,and_false,and_self,ge_iff_le,this]
       ·have:(65536≤at_ s i % 8 * 262144+at_ s (i+1) % 64 * 4096+at_ s (i+2) % 64 * 64+at_ s (i+3) % 64∧(at_ s i % 8 * 262144+at_ s (i+1) % 64 * 4096+at_ s (i+2) % 64 * 64+at_ s (i+3) % 64<55296∨57344≤at_ s i % 8 * 262144+at_ s (i+1) % 64 * 4096+at_ s (i+2) % 64 * 64+at_ s (i+3) % 64∧at_ s i % 8 * 262144+at_ s (i+1) % 64 * 4096+at_ s (i+2) % 64 * 64+at_ s (i+3) % 64≤1114111)):=by omega
        simp only [h1,h2,h3,e1,e3,e4,e5,h5,c1,c2,c3,hb2,and_true,true_and,if_true,if_false,false_and,and_false,and_self,ge_iff_le,this]
        simp
      ·have:¬ (65536≤at_ s i % 8 * 262144+at_ s (i+1) % 64 * 4096+at_ s (i+2) % 64 * 64+at_ s (i+3) % 64∧(at_ s i % 8 * 262144+at_ s (i+1) % 64 * 4096+at_ s (i+2) % 64 * 64+at_ s (i+3) % 64<55296∨57344≤at_ s i % 8 * 262144+at_ s (i+1) % 64 * 4096+at_ s (i+2) % 64 * 64+at_ s (i+3) % 64∧at_ s i % 8 * 262144+at_ s (i+1) % 64 * 4096+at_ s (i+2) % 64 * 64+at_ s (i+3) % 64≤1114111)):=by omega
       simp only [h1,h2,h3,e1,e3,e4,e5,h5,c1,c2,c3,and_true,true_and,if_true,if_false,false_and,and_false,and_self,ge_iff_le,this]
     ·simp [h1,h2,h3,e1,e3,e4,e5,c3]
    ·simp [h1,h2,h3,e1,e3,e4,e5,c2]
   ·simp [h1,h2,h3,e1,e3,e4,e5,c1]
  ·have e4:¬ at_ s i / 8=30:=by omega
   have h5:¬ at_ s i<245:=by omega
   simp [h1,h2,h3,e1,e3,e4,e5,h5]
end Go.LX
namespace Go.LX
open Go
theorem Pf (s:List UInt8) (i k:Nat):at_ (s.drop i) k=at_ s (i+k):=by
 simp [at_,List.getD_eq_getElem?_getD]
theorem Jkk {a b:List UInt8} {k:Nat} (h:k<a.length):at_ (a ++ b) k=at_ a k:=by
 simp [at_,List.getD_eq_getElem?_getD,List.getElem?_append_left h]
theorem Jhs {a b:List UInt8} {k:Nat} (h:a.length≤k):at_ (a ++ b) k=at_ b (k - a.length):=by
 simp [at_,List.getD_eq_getElem?_getD,List.getElem?_append_right h]
theorem R5 (c:UInt8) (s:List UInt8):at_ (c :: s) 0=c.toNat:=rfl
theorem Jso (c:UInt8) (s:List UInt8) (k:Nat):at_ (c :: s) (k+1)=at_ s k:=rfl
theorem at_out {s:List UInt8} {k:Nat} (h:s.length≤k):at_ s k=0:=by
 simp [at_,List.getD_eq_getElem?_getD,List.getElem?_eq_none h]
theorem ct_drop (s:List UInt8) (i k:Nat):ct (s.drop i) k=ct s (i+k):=by
 have:decide (k<(s.drop i).length)=decide (i+k<s.length):=by rw [List.length_drop];congr 1;apply propext;omega
 simp only [ct,Pf,this]
theorem Z4 (s:List UInt8) (i k:Nat):rlen (s.drop i) k=rlen s (i+k):=by
 simp only [rlen,Pf,ct_drop,← Nat.add_assoc]
theorem Jrv (s:List UInt8) (i k:Nat):code (s.drop i) k=code s (i+k):=by
 simp only [code,Pf,← Nat.add_assoc]
theorem Jed (s:List UInt8) (i k:Nat):dec (s.drop i) k=dec s (i+k):=by
 simp only [Qd,Z4,Jrv]
theorem Wg (s:List UInt8) (i:Nat) (h:i<s.length):i+rlen s i≤s.length:=by
 unfold rlen
 simp only [Vp]
 repeat' split
 all_goals omega
theorem Yi (s:List UInt8) (i:Nat):rlen s i≤4:=by
 unfold rlen
 repeat' split
 all_goals omega
theorem Jcg (s:List UInt8) (k:Nat):u8of (at_ s k)=s.getD k 0:=by
 apply UInt8.toNat_inj.1
 have:=Nd s k
 have h:=J4 (c:=(at_ s k:Int)) (by omega) (by omega)
 simp only [at_] at h ⊢
 omega
theorem Jqx {s:List UInt8} {i:Nat} (n:Nat) (h:i+n≤s.length):(s.drop i).take n=(List.range n).map fun k=>s.getD (i+k) 0:=by
 apply List.ext_getElem?
 intro j
 rw [List.getElem?_take,List.getElem?_map]
 by_cases hj:j<n
 ·have hl:i+j<s.length:=by omega
  simp [hj,hl]
 ·simp [hj]
theorem Py (s:List UInt8) (i:Nat):rlen s i=0∨(rlen s i=1∧at_ s i<128) ∨
  (rlen s i=2∧194≤at_ s i∧at_ s i<224∧at_ s (i+1) / 64=2) ∨
  (rlen s i=3∧224≤at_ s i∧at_ s i<240∧at_ s (i+1) / 64=2∧at_ s (i+2) / 64=2∧¬ (at_ s i=224∧at_ s (i+1)<160)∧¬ (at_ s i=237∧160≤at_ s (i+1))) ∨
  (rlen s i=4∧240≤at_ s i∧at_ s i<245∧at_ s (i+1) / 64=2∧at_ s (i+2) / 64=2∧at_ s (i+3) / 64=2∧¬ (at_ s i=240∧at_ s (i+1)<144)∧¬ (at_ s i=244∧144≤at_ s (i+1))):=by
 unfold rlen
 simp only [Vp]
 repeat' split
 all_goals omega
theorem Tl {s:List UInt8} {i:Nat} (h:rlen s i≠0) (hi:i<s.length):utf (code s i)=(s.drop i).take (rlen s i):=by
 have hle:=Wg s i hi
 have h0:=Nd s i
 have h1:=Nd s (i+1)
 have h2:=Nd s (i+2)
 have h3:=Nd s (i+3)
 rw [Jqx _ hle]
 rcases Py s i with e | ⟨e,g1⟩ | ⟨e,g1,g2,g3⟩ | ⟨e,g1,g2,g3,g4,g5,g6⟩ | ⟨e,g1,g2,g3,g4,g5,g6,g7⟩
 ·exact absurd e h
 ·have ec:code s i=at_ s i:=by unfold code;rw [if_pos g1]
  rw [e,ec,utf,Vv (by omega)]
  simp [List.range_succ,Jcg]
 ·have ec:code s i=at_ s i % 32 * 64+at_ s (i+1) % 64:=by unfold code;rw [if_neg (by omega),if_pos (by omega)]
  have l:utfC (code s i)=[(at_ s i:Int),(at_ s (i+1):Int)]:=by
   rw [Xa (by rw [ec];omega),ec]
   congr 1
   ·omega
   ·congr 1;omega
  rw [e,utf,l]
  simp [List.range_succ,Jcg]
 ·have ec:code s i=at_ s i % 16 * 4096+at_ s (i+1) % 64 * 64+at_ s (i+2) % 64:=by unfold code;rw [if_neg (by omega),if_neg (by omega),if_pos (by omega)]
  have l:utfC (code s i)=[(at_ s i:Int),(at_ s (i+1):Int),(at_ s (i+2):Int)]:=by
   rw [Xm (by rw [ec];omega),ec]
   congr 1
   ·omega
   ·congr 1
    ·omega
    ·congr 1;omega
  rw [e,utf,l]
  simp [List.range_succ,Jcg]
 ·have ec:code s i=at_ s i % 8 * 262144+at_ s (i+1) % 64 * 4096+at_ s (i+2) % 64 * 64+at_ s (i+3) % 64:=by unfold code;rw [if_neg (by omega),if_neg (by omega),if_neg (by omega)]
  have l:utfC (code s i)=[(at_ s i:Int),(at_ s (i+1):Int),(at_ s (i+2):Int),(at_ s (i+3):Int)]:=by
   rw [Xr (by rw [ec];omega),ec]
   congr 1
   ·omega
   ·congr 1
    ·omega
    ·congr 1
     ·omega
     ·congr 1;omega
  rw [e,utf,l]
  simp [List.range_succ,Jcg]
def Kq (r:Int):Prop:=(0≤r∧r<55296)∨(57344≤r∧r≤1114111)
theorem Qf {s:List UInt8} {i:Nat} (h:rlen s i≠0):Kq (code s i):=by
 have h0:=Nd s i
 unfold Kq
 rcases Py s i with e | ⟨e,g1⟩ | ⟨e,g1,g2,g3⟩ | ⟨e,g1,g2,g3,g4,g5,g6⟩ | ⟨e,g1,g2,g3,g4,g5,g6,g7⟩
 ·exact absurd e h
 ·have ec:code s i=at_ s i:=by unfold code;rw [if_pos g1]
  omega
 ·have ec:code s i=at_ s i % 32 * 64+at_ s (i+1) % 64:=by unfold code;rw [if_neg (by omega),if_pos (by omega)]
  omega
 ·have ec:code s i=at_ s i % 16 * 4096+at_ s (i+1) % 64 * 64+at_ s (i+2) % 64:=by unfold code;rw [if_neg (by omega),if_neg (by omega),if_pos (by omega)]
  omega
 ·have ec:code s i=at_ s i % 8 * 262144+at_ s (i+1) % 64 * 4096+at_ s (i+2) % 64 * 64+at_ s (i+3) % 64:=by unfold code;rw [if_neg (by omega),if_neg (by omega),if_neg (by omega)]
  omega
theorem Jeq {r:Int} (h:Kq r) (t:List UInt8):rlen (utf r ++ t) 0=(utf r).length∧(code (utf r ++ t) 0:Int)=r:=by
 unfold Kq at h
 by_cases c1:r<128
 ·have e:=Vv (r:=r) (by omega)
  have a0:=J4 (c:=r) (by omega) (by omega)
  simp only [utf,e,List.map_cons,List.map_nil,List.cons_append,List.nil_append,List.length_cons,List.length_nil]
  have e0:at_ (u8of r :: t) 0=(u8of r).toNat:=rfl
  unfold rlen code
  rw [if_pos (by rw [e0];omega),if_pos (by rw [e0];omega),e0]
  exact ⟨rfl,a0⟩
 by_cases c2:r<2048
 ·have e:=Xa (r:=r) (by omega)
  have a0:=J4 (c:=192+r / 64) (by omega) (by omega)
  have a1:=J4 (c:=128+r % 64) (by omega) (by omega)
  simp only [utf,e,List.map_cons,List.map_nil,List.cons_append,List.nil_append,List.length_cons,List.length_nil]
  generalize hs:u8of (192+r / 64) :: u8of (128+r % 64) :: t=s
  have e0:at_ s 0=(u8of (192+r / 64)).toNat:=by rw [← hs];rfl
  have e1:at_ s 1=(u8of (128+r % 64)).toNat:=by rw [← hs];rfl
  have hl:1<s.length:=by rw [← hs];simp
  unfold rlen code
  simp only [Vp,Nat.zero_add]
  rw [if_neg (by omega),if_pos (by omega),if_neg (by omega),if_pos (by omega)]
  exact ⟨rfl,by omega⟩
 by_cases c3:r<65536
 ·have e:=Xm (r:=r) (by omega)
  have a0:=J4 (c:=224+r / 4096) (by omega) (by omega)
  have a1:=J4 (c:=128+r / 64 % 64) (by omega) (by omega)
  have a2:=J4 (c:=128+r % 64) (by omega) (by omega)
  simp only [utf,e,List.map_cons,List.map_nil,List.cons_append,List.nil_append,List.length_cons,List.length_nil]
  generalize hs:u8of (224+r / 4096) :: u8of (128+r / 64 % 64) :: u8of (128+r % 64) :: t=s
  have e0:at_ s 0=(u8of (224+r / 4096)).toNat:=by rw [← hs];rfl
  have e1:at_ s 1=(u8of (128+r / 64 % 64)).toNat:=by rw [← hs];rfl
  have e2:at_ s 2=(u8of (128+r % 64)).toNat:=by rw [← hs];rfl
  have hl:2<s.length:=by rw [← hs];simp
  unfold rlen code
  simp only [Vp,Nat.zero_add]
  rw [if_neg (by omega),if_neg (by omega),if_pos (by omega),if_neg (by omega),if_neg (by omega),if_neg (by omega),if_pos (by omega)]
  exact ⟨rfl,by omega⟩
 ·have e:=Xr (r:=r) (by omega)
  have a0:=J4 (c:=240+r / 262144) (by omega) (by omega)
  have a1:=J4 (c:=128+r / 4096 % 64) (by omega) (by omega)
  have a2:=J4 (c:=128+r / 64 % 64) (by omega) (by omega)
  have a3:=J4 (c:=128+r % 64) (by omega) (by omega)
  simp only [utf,e,List.map_cons,List.map_nil,List.cons_append,List.nil_append,List.length_cons,List.length_nil]
  generalize hs:u8of (240+r / 262144) :: u8of (128+r / 4096 % 64) :: u8of (128+r / 64 % 64) :: u8of (128+r % 64) :: t=s
  have e0:at_ s 0=(u8of (240+r / 262144)).toNat:=by rw [← hs];rfl
  have e1:at_ s 1=(u8of (128+r / 4096 % 64)).toNat:=by rw [← hs];rfl
  have e2:at_ s 2=(u8of (128+r / 64 % 64)).toNat:=by rw [← hs];rfl
  have e3:at_ s 3=(u8of (128+r % 64)).toNat:=by rw [← hs];rfl
  have hl:3<s.length:=by rw [← hs];simp
  unfold rlen code
  simp only [Vp,Nat.zero_add]
  rw [if_neg (by omega),if_neg (by omega),if_neg (by omega),if_pos (by omega),if_neg (by omega),if_neg (by omega),if_neg (by omega),if_neg (by omega)]
  exact ⟨rfl,by omega⟩
end Go.LX
