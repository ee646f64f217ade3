/- strings.Builder, unicode/utf8.AppendRune. -/
import Derived.Test.YtmejkfclabmijaaGreatDoorPathBackLxH
set_option linter.unusedSimpArgs false
set_option linter.unusedVariables false
set_option linter.unusedSectionVars false
set_option linter.unnecessarySimpa false
set_option maxRecDepth 100000
set_option maxHeartbeats 2000000
namespace Go.LX
open Go Go.RowKit Go.Proofs
attribute [local irreducible] Bz SWP Gm
theorem Jll (a:L):Ec cx 234 [a] a:=by
 intro β Im w vs hl ha
 match vs,hl with
 | [v],_ =>
  refine ⟨v,?_,ha 0 v a rfl rfl⟩
  show (callFunc 234 #[v]).run Tryz.prog w=_
  rw [run_callFunc_extern Tryz.func234 (by kernel_rfl) (by kernel_rfl) (by kernel_rfl) (e:=Extern.AbiNoEscape.same) (by kernel_rfl),Lib.run_noEscape]
  rfl
theorem f_lies:liesAt Tryz.prog Tryz.prog.depth 128 1 0 128 1=true:=by kernel_rfl
def bstr (s:List UInt8):List (List PV):=s.map fun c=>[.int .u8 c.toNat]
theorem Mb (s:List UInt8):(bstr s).length=s.length:=by simp [bstr]
theorem Jqb (c:UInt8) (s:List UInt8):bstr (c :: s)=[.int .u8 c.toNat] :: bstr s:=(rfl)
theorem Rc (a b:List UInt8):bstr (a ++ b)=bstr a ++ bstr b:=by simp [bstr]
theorem Jje (a:List UInt8):∀ q∈bstr a,q.length=1:=by simp [bstr]
theorem Jc8:∀ s:List UInt8,K0 (bstr s)=some s
 | []=>rfl
 | c :: s=>by
  rw [Jqb,Qf,Jc8 s]
  have:=c.toNat_lt
  simp only [Jjw]
  rw [if_pos (by omega)]
  simp
theorem Jkr {s:List UInt8} {C:List UInt8→Prop}:Ht (K0 (bstr s)) C=C s:=by rw [Jc8,Bp]
theorem mem_one (c:PV):(∀ q∈[[c]],q.length=1)=True:=by simp
theorem Wf (x:Int) (h0:0≤x) (h1:x<32):IntKind.u8.wrap (BitVec.ofInt IntKind.u8.bits 192 ||| BitVec.ofInt IntKind.u8.bits x).toNat=192+x:=by
 obtain ⟨n,rfl⟩:=Int.eq_ofNat_of_zero_le h0
 have:n<32:=by omega
 have key:∀ m:Fin 32,IntKind.u8.wrap (BitVec.ofInt IntKind.u8.bits 192 ||| BitVec.ofInt IntKind.u8.bits (m.val:Int)).toNat=192+(m.val:Int):=by decide
 exact key ⟨n,this⟩
theorem We (x:Int) (h0:0≤x) (h1:x<16):IntKind.u8.wrap (BitVec.ofInt IntKind.u8.bits 224 ||| BitVec.ofInt IntKind.u8.bits x).toNat=224+x:=by
 obtain ⟨n,rfl⟩:=Int.eq_ofNat_of_zero_le h0
 have key:∀ m:Fin 16,IntKind.u8.wrap (BitVec.ofInt IntKind.u8.bits 224 ||| BitVec.ofInt IntKind.u8.bits (m.val:Int)).toNat=224+(m.val:Int):=by decide
 exact key ⟨n,by omega⟩
theorem Wj (x:Int) (h0:0≤x) (h1:x<8):IntKind.u8.wrap (BitVec.ofInt IntKind.u8.bits 240 ||| BitVec.ofInt IntKind.u8.bits x).toNat=240+x:=by
 obtain ⟨n,rfl⟩:=Int.eq_ofNat_of_zero_le h0
 have key:∀ m:Fin 8,IntKind.u8.wrap (BitVec.ofInt IntKind.u8.bits 240 ||| BitVec.ofInt IntKind.u8.bits (m.val:Int)).toNat=240+(m.val:Int):=by decide
 exact key ⟨n,by omega⟩
theorem V3 (x:Int) (h0:0≤x) (h1:x<64):IntKind.u8.wrap (BitVec.ofInt IntKind.u8.bits 128 ||| BitVec.ofInt IntKind.u8.bits x).toNat=128+x:=by
 obtain ⟨n,rfl⟩:=Int.eq_ofNat_of_zero_le h0
 have key:∀ m:Fin 64,IntKind.u8.wrap (BitVec.ofInt IntKind.u8.bits 128 ||| BitVec.ofInt IntKind.u8.bits (m.val:Int)).toNat=128+(m.val:Int):=by decide
 exact key ⟨n,by omega⟩
theorem V8 (x:Int) (h0:0≤x) (h1:x<256):IntKind.u8.wrap (BitVec.ofInt IntKind.u8.bits x &&& BitVec.ofInt IntKind.u8.bits 63).toNat=x % 64:=by
 obtain ⟨n,rfl⟩:=Int.eq_ofNat_of_zero_le h0
 have key:∀ m:Fin 256,IntKind.u8.wrap (BitVec.ofInt IntKind.u8.bits (m.val:Int) &&& BitVec.ofInt IntKind.u8.bits 63).toNat=(m.val:Int) % 64:=by decide
 exact key ⟨n,by omega⟩
theorem fd6 (r:Int):r.fdiv (2 ^ min 6 IntKind.i32.bits)=r / 64:=by
 rw [Int.fdiv_eq_ediv_of_nonneg _ (by decide)];rfl
theorem fd12 (r:Int):r.fdiv (2 ^ min 12 IntKind.i32.bits)=r / 4096:=by
 rw [Int.fdiv_eq_ediv_of_nonneg _ (by decide)];rfl
theorem fd18 (r:Int):r.fdiv (2 ^ min 18 IntKind.i32.bits)=r / 262144:=by
 rw [Int.fdiv_eq_ediv_of_nonneg _ (by decide)];rfl
def utfC (r:Int):List Int :=
 if 0≤r∧r<128 then [r]
 else if 0≤r∧r<2048 then [192+r / 64,128+r % 64]
 else if (0≤r∧r<55296)∨(57343<r∧r<65536) then [224+r / 4096,128+r / 64 % 64,128+r % 64]
 else if 65536≤r∧r≤1114111 then [240+r / 262144,128+r / 4096 % 64,128+r / 64 % 64,128+r % 64]
 else [239,191,189]
theorem Wo {r:Int} (h:0≤r∧r<128):utfC r=[r]:=if_pos h
theorem Yz {r:Int} (h:128≤r∧r<2048):utfC r=[192+r / 64,128+r % 64]:=by unfold utfC;rw [if_neg (by omega),if_pos (by omega)]
theorem Y6 {r:Int} (h:(2048≤r∧r<55296)∨(57343<r∧r<65536)):utfC r=[224+r / 4096,128+r / 64 % 64,128+r % 64]:=by unfold utfC;rw [if_neg (by omega),if_neg (by omega),if_pos (by omega)]
theorem Za {r:Int} (h:65536≤r∧r≤1114111):utfC r=[240+r / 262144,128+r / 4096 % 64,128+r / 64 % 64,128+r % 64]:=by unfold utfC;rw [if_neg (by omega),if_neg (by omega),if_neg (by omega),if_pos (by omega)]
theorem Jgy {r:Int} (h:¬ (0≤r∧r<55296)∧¬ (57343<r∧r≤1114111)):utfC r=[239,191,189]:=by unfold utfC;rw [if_neg (by omega),if_neg (by omega),if_neg (by omega),if_neg (by omega)]
def utf (r:Int):List UInt8:=(utfC r).map u8of
theorem utfC_ok (r:Int):∀ c∈utfC r,0≤c∧c<256:=by
 unfold utfC
 split
 ·simp;omega
 split
 ·simp;omega
 split
 ·simp;omega
 split
 ·simp;omega
 ·simp
theorem Jt {c:Int} (h0:0≤c) (h1:c<256):((u8of c).toNat:Int)=c:=by
 unfold u8of
 simp
 omega
theorem Nk (r:Int):bstr (utf r)=(utfC r).map fun c=>[PV.int .u8 c]:=by
 simp only [bstr,utf,List.map_map]
 apply List.map_congr_left
 intro c hc
 obtain ⟨h0,h1⟩:=utfC_ok r c hc
 simp [Jt h0 h1]
theorem M4 (r:Int):(utf r).length=(utfC r).length:=by simp [utf]
theorem Zl (r:Int):(utf r).length≤4:=by
 rw [M4];unfold utfC
 repeat' split
 all_goals simp
theorem J9:Det cx 189 [.ptr 1000 0 0] [(1000,.var 128 [.p .nptr,.p .snil])] (.tup []) [(1000,.var 128 [.ptr 1000 0 0,.p .snil])]:=by
 (refine Bz.of_code (X:=cx) false [] (by simp) Tryz.func189 (by kernel_rfl) rfl (by simp only [List.length_cons,List.length_nil,Tryz.ntmps189];decide) (by simp) ?_;refine Ax hm _ _ _ ?_;simp only [Tryz.ntmps189,Tryz.results189,Ah,Bn,Bs,Ab,Bd,A0,Bb,Be,Az,Ce,Jlo,Ba,B8,Kq,Wc,D5,C2,Cc,Bg,Br,Jmj,u_n_pp,Rl,B0,Aq,Yk,Jbq,Cv,Gd,C5,Da,Ej,K9,Cd,Bv,Jkt,Ar,Ad,Ac,argW,List.map_cons,List.map_nil,List.length_cons,List.length_nil,List.getElem?_cons_zero,ne_eq,not_false_eq_true,Nat.reduceLT,Nat.reduceEqDiff,Nat.reduceAdd,true_and,Ca,Bu,↓reduceIte,reduceCtorEq,Nat.zero_add,Bool.true_and,Bool.or_true,Jgs,Jl7,Jgn,Jg4,Xl,Jm2])
 (repeat' (first | (refine iteI (fun h=>?_) (fun h=>?_))|(refine B2 (by first | omega | (simp (disch:=omega) only [Aa,Ak,Aj] at *;omega)) ?_;intro b hb)|(refine And.intro (by first | omega | (simp (disch:=omega) only [Aa,Ak,Aj] at *;omega)) ?_)|((first | (refine A9 hm (by rfl) (by kernel_rfl) ?_)|(refine Ec.use (Jll _) ?_));simp only [Bd,A0,Bb,Dd,Cs,Be,Kq,Wc,Gn,C2,Bp,Yk,X0,Cv,Gd,K9,Jis,Jw,Gl,Jc,Fj,Ag,A7,B9,Aw,Ao,D2,Al,B5,B6,Af,Am,Jbw,A1,Ar,Cu,Tp,Ad,Ac,List.length_cons,List.length_nil,List.cons_append,List.nil_append,List.take_zero,List.drop_succ_cons,List.drop_zero,ne_eq,not_false_eq_true,Nat.reduceLT,Nat.reduceLeDiff,Nat.reduceEqDiff,Nat.reduceAdd,and_true,Ca,↓reduceIte,reduceCtorEq,Nat.zero_add,Bool.and_true,and_self,Jgs,Jgn,Jg4,Xl,Jq2,Jm2])|(exact True.intro)|(exfalso;omega)))
 exact f_lies
theorem Kn (es:List (List PV)) (n:Nat):Det cx 189 [.ptr 1000 0 0] [(500001,.row 5 1 es),(1000,.var 128 [.ptr 1000 0 0,.own 500001 0 n])] (.tup []) [(500001,.row 5 1 es),(1000,.var 128 [.ptr 1000 0 0,.own 500001 0 n])]:=by
 (refine Bz.of_code (X:=cx) false [] (by simp) Tryz.func189 (by kernel_rfl) rfl (by simp only [List.length_cons,List.length_nil,Tryz.ntmps189];decide) (by simp) ?_;refine Ax hm _ _ _ ?_;simp only [Tryz.ntmps189,Tryz.results189,Ch,Ah,Bn,Bs,Ab,Bd,A0,Bb,Be,Az,Jlo,Ba,B8,Wc,D5,C2,Bg,Br,Jmj,Jrb,Jok,Jk6,Rl,Ls,B0,Aq,Cv,Gd,C5,Da,Ej,K9,Ag,A7,B9,Aw,Ao,D2,Al,B5,B6,Af,Am,Jbw,A1,Ar,Tp,Ad,Ac,argW,List.map_cons,List.map_nil,List.getElem?_cons_zero,ne_eq,not_false_eq_true,Nat.reduceLT,Nat.reduceEqDiff,Ca,↓reduceIte,reduceCtorEq,Nat.zero_add,Bool.not_true,Bool.false_eq_true,Bool.and_true,Bool.or_false,Bool.or_true,beq_self_eq_true,and_self,Jgs,Jl7,Jgn,Jg4,Xl])
theorem Rj (c:Int):Det cx 180 [.ptr 1000 0 0,.p (.int .u8 c)] [(1000,.var 128 [.p .nptr,.p .snil])] (.p .nifc) [(900,.row 5 1 [[.int .u8 c]]),(1000,.var 128 [.ptr 1000 0 0,.own 900 0 1])]:=by
 (refine Bz.of_code (X:=cx) false [(14,900)] (by simp) Tryz.func180 (by kernel_rfl) rfl (by simp only [List.length_cons,List.length_nil,Tryz.ntmps180];decide) (by simp) ?_;refine Ax hm _ _ _ ?_;simp only [Tryz.ntmps180,Tryz.results180,Ah,Bn,Ab,Bd,A0,Bb,Be,Az,Ce,Ko,Ba,Ai,Cc,Ag,Ae,Hi,Cd,Bv,Bm,Bx,Bw,Ew,Dt,F2,Ff,Fe,Dy,B3,E3,F9,Bi,Ay,Ev,Et,Gw,Ey,Ee,Ez,Ho,Hp,Eu,Ed,Hg,Cj,Ie,Ad,Ac,argW,List.map_cons,List.map_nil,List.length_cons,List.length_nil,List.append_nil,List.flatMap_cons,List.flatMap_nil,List.contains_cons,List.contains_nil,Nat.reduceLT,Nat.reduceEqDiff,Nat.reduceAdd,Ca,Bu,↓reduceIte,reduceCtorEq,Nat.zero_add,Bool.false_eq_true,Bool.or_false,beq_self_eq_true])
 (repeat' (first | (refine iteI (fun h=>?_) (fun h=>?_))|(refine B2 (by first | omega | (simp (disch:=omega) only [Aa,Ak,Aj] at *;omega)) ?_;intro b hb)|(refine And.intro (by first | omega | (simp (disch:=omega) only [Aa,Ak,Aj] at *;omega)) ?_)|((first | (refine A9 hm (by rfl) (by kernel_rfl) ?_)|(refine Det.use (J9) ?_)|(refine Det.useQ (J9) ?_));simp only [Ah,Bn,Cn,Ab,Bd,A0,Bb,Dd,Cs,Be,Az,Ko,Ba,Ai,Wc,D5,Gn,C2,Di,Fy,Bp,Bg,Cv,Gd,C5,Da,Ej,K9,Cr,Oq,Mm,Jw,Gl,Jc,Fj,Ag,Ae,A3,Hv,J3,Fw,Df,Eb,Gu,G5,E4,E2,Fg,Fm,Fi,Gv,Ih,Dp,Bk,Dt,Hz,Hx,E8,Dy,C1,B3,E3,Dl,Fc,F9,Ek,Ib,Jm,Ii,Dh,Jl,Gz,G8,Ha,G6,H7,H1,G0,F1,G3,E7,Qq,F6,Jb,Bt,Cy,Cz,A7,A8,B9,Aw,Ao,D2,B5,B6,Af,Ct,F3,Fa,Dx,C9,C8,Am,Ap,Cl,Ar,B1,Cw,Cu,Hw,Fv,E6,Ky,H3,F5,Ds,Fl,Db,Hf,A2,Ad,Ac,Bl,Cg,Bf,A6,List.map_cons,List.map_nil,List.length_cons,List.length_nil,List.cons_append,List.nil_append,List.append_nil,List.take_succ_cons,List.take_zero,List.take_nil,List.drop_succ_cons,List.drop_zero,List.drop_nil,List.getElem?_cons_zero,List.getElem?_cons_succ,ne_eq,not_false_eq_true,Nat.reduceLT,Nat.reduceLeDiff,Nat.reduceEqDiff,Nat.reduceAdd,Nat.reduceMul,true_and,and_true,Ca,↓reduceIte,reduceCtorEq,Nat.zero_add,Bool.true_and,Bool.and_true,beq_self_eq_true,and_self,Jgt,Jgx,Td,Tj,Ry,O0])|(exact True.intro)|(exfalso;omega)))
 simp
theorem M3 (c:Int) (es:List (List PV)) (n:Nat) (h:es.length=n) (hn:n≤1000000000):Det cx 180 [.ptr 1000 0 0,.p (.int .u8 c)] [(500001,.row 5 1 es),(1000,.var 128 [.ptr 1000 0 0,.own 500001 0 n])] (.p .nifc) [(500001,.row 5 1 (es ++ [[.int .u8 c]])),(1000,.var 128 [.ptr 1000 0 0,.own 500001 0 (n+1)])]:=by
 (refine Bz.of_code (X:=cx) false [(14,500001)] (by simp) Tryz.func180 (by kernel_rfl) rfl (by simp only [List.length_cons,List.length_nil,Tryz.ntmps180];decide) (by simp) ?_;refine Ax hm _ _ _ ?_;simp only [Tryz.ntmps180,Tryz.results180,Ah,Bn,Ab,Bd,A0,Bb,Be,Az,Ce,Ko,Ba,Ai,Cc,Ag,Ae,Hi,Cd,Bv,Bm,Bx,Bw,Ew,Dt,F2,Ff,Fe,Dy,C1,E3,Dl,F9,Ek,Bi,Ay,Ev,Et,Gw,Ey,Ee,Ez,Hk,Ho,Hp,Eu,Ed,Hg,Iw,Ie,Jr,Ad,Ac,argW,List.map_cons,List.map_nil,List.length_cons,List.length_nil,List.cons_append,List.nil_append,List.append_nil,List.flatMap_cons,List.flatMap_nil,List.contains_cons,List.contains_nil,Nat.reduceLT,Nat.reduceLeDiff,Nat.reduceEqDiff,Nat.reduceAdd,Nat.reduceBEq,true_and,Ca,Bu,↓reduceIte,reduceCtorEq,Nat.zero_add,Bool.false_eq_true,Bool.true_and,Bool.or_false,beq_self_eq_true])
 (repeat' (first | (refine iteI (fun h=>?_) (fun h=>?_))|(refine B2 (by first | omega | (simp (disch:=omega) only [Aa,Ak,Aj] at *;omega)) ?_;intro b hb)|(refine And.intro (by first | omega | (simp (disch:=omega) only [Aa,Ak,Aj] at *;omega)) ?_)|((first | (refine A9 hm (by rfl) (by kernel_rfl) ?_)|(refine Det.use (Kn _ _) ?_)|(refine Det.useQ (Kn _ _) ?_));simp only [Ah,Bn,Cn,Ab,Bd,A0,Bb,Dd,Cs,Be,Az,Ko,Ba,Ai,Wc,D5,Gn,C2,Di,Fy,Bp,Bg,Cv,Gd,C5,Da,Ej,K9,Cr,G1,Oq,Mm,Jw,Gl,Jc,Fj,Ag,Ae,A3,Hv,Dn,Fw,Df,Eb,Gu,G5,E4,E2,Fg,Fm,Fi,Gv,Ih,Dp,Bk,Dt,Hz,Hx,Fh,Fx,E8,Dy,C1,B3,E3,Dl,Fc,Hq,F9,Ek,Ib,Jm,Ii,Dh,Jl,Gz,G8,Ha,G6,H7,H1,G0,F1,G3,E7,Gb,Km,F6,Jb,Bt,Cy,Cz,A7,A8,B9,Aw,Ao,D2,Al,B5,B6,Af,Ct,F3,Fa,Dx,C9,C8,Am,Ap,Cl,A1,Ar,B1,Cw,Cu,Hw,Fv,E6,G2,Ky,H3,F5,Ds,Fl,Db,Hf,A2,Ad,Ac,Bl,Cg,Bf,A6,List.map_cons,List.map_nil,List.length_cons,List.length_nil,List.cons_append,List.nil_append,List.append_nil,List.take_succ_cons,List.take_zero,List.take_nil,List.drop_succ_cons,List.drop_zero,List.drop_nil,List.getElem?_cons_zero,List.getElem?_cons_succ,ne_eq,not_false_eq_true,Nat.reduceLT,Nat.reduceLeDiff,Nat.reduceEqDiff,Nat.reduceAdd,Nat.reduceMul,true_and,and_true,Ca,↓reduceIte,reduceCtorEq,Nat.zero_add,Bool.true_and,Bool.and_true,beq_self_eq_true,and_self,Jgt,Jgx,Td,Tj,Ry,O0])|(exact True.intro)|(exfalso;omega)))
 simp;omega
theorem Ir (s:List UInt8) (es:List (List PV)) (n:Nat) (h:es.length=n) (hn:n≤1000000000) (hs:s.length≤1000000000):Det cx 118 [.ptr 1000 0 0,.p (.str s)] [(500001,.row 5 1 es),(1000,.var 128 [.ptr 1000 0 0,.own 500001 0 n])] (.tup [.int .i64 s.length,.nifc]) [(500001,.row 5 1 (es ++ bstr s)),(1000,.var 128 [.ptr 1000 0 0,.own 500001 0 (n+s.length)])]:=by
 (refine Bz.of_code (X:=cx) false [(14,500001)] (by simp) Tryz.func118 (by kernel_rfl) rfl (by simp only [List.length_cons,List.length_nil,Tryz.ntmps118];decide) (by simp) ?_;refine Ax hm _ _ _ ?_;simp only [Tryz.ntmps118,Tryz.results118,Ah,Bn,Ab,Bd,A0,Bb,Be,Az,Ce,Cb,Ko,Ba,Ai,Cc,Ag,Ae,Hi,Cd,Bv,Bm,Bx,Bw,Ew,Dt,F2,Ff,Fe,Dy,C1,E3,Dl,F9,Ek,Bi,Ay,Ev,Et,Gw,Ey,Ee,Ez,Hk,Ho,Hp,Eu,Ed,Hg,Iw,Ie,Jr,Ad,Ac,argW,List.map_cons,List.map_nil,List.length_cons,List.length_nil,List.cons_append,List.nil_append,List.append_nil,List.flatMap_cons,List.flatMap_nil,List.contains_cons,List.contains_nil,Nat.reduceLT,Nat.reduceLeDiff,Nat.reduceEqDiff,Nat.reduceAdd,Nat.reduceBEq,true_and,Ca,Bu,↓reduceIte,reduceCtorEq,Nat.zero_add,Bool.false_eq_true,Bool.true_and,Bool.or_false,beq_self_eq_true])
 (repeat' (first | (refine iteI (fun h=>?_) (fun h=>?_))|(refine B2 (by first | omega | (simp (disch:=omega) only [Aa,Ak,Aj] at *;omega)) ?_;intro b hb)|(refine And.intro (by first | omega | (simp (disch:=omega) only [Aa,Ak,Aj] at *;omega)) ?_)|((first | (refine A9 hm (by rfl) (by kernel_rfl) ?_)|(refine Det.use (Kn _ _) ?_)|(refine Det.useQ (Kn _ _) ?_));simp only [Ah,Bn,Cn,Ab,Bd,A0,Bb,Dd,Cs,Be,Az,Ko,Ba,Ai,Wc,D5,Gn,C2,Eg,Fy,Bp,Bg,D9,Fb,Cv,Gd,C5,Da,Ej,K9,Cr,G1,Mm,Jw,Gl,Jc,Fj,Ag,Ae,A3,Hv,Dn,Fw,Df,Eb,Gu,G5,E4,E2,Fg,Fm,Fi,Gv,Ih,Dp,Bk,Dt,Hz,Hx,Fh,Fx,E8,Dy,C1,B3,E3,Dl,Fc,Hq,F9,Ek,Ii,G0,F1,Zx,Tn,Jcp,Gb,Km,Bt,Cy,Cz,A7,A8,B9,Aw,Ao,D2,Al,B5,B6,Af,Ct,F3,Fa,Dx,C9,C8,Am,Ap,De,A1,Ar,B1,Cw,Cu,Hw,E6,G2,Ky,H3,F5,A2,Ad,Ac,Bl,Cg,Bf,A6,List.map_cons,List.map_nil,List.length_cons,List.length_nil,List.cons_append,List.nil_append,List.append_nil,List.length_map,List.take_succ_cons,List.take_zero,List.drop_succ_cons,List.drop_nil,List.getElem?_cons_zero,List.getElem?_cons_succ,ne_eq,not_false_eq_true,Nat.reduceLT,Nat.reduceLeDiff,Nat.reduceEqDiff,Nat.reduceAdd,true_and,and_true,Ca,↓reduceIte,reduceCtorEq,Nat.zero_add,List.cons.injEq,Bool.true_and,Bool.and_true,T8,Jgt,Je7,Jgx,Ja,Td,Tj,Ry,O0])|(exact True.intro)|(exfalso;omega)))
 exact ⟨Jje s,h,by omega,by omega,rfl⟩
theorem Np (r:Int) (es:List (List PV)) (n:Nat) (hl:es.length=n) (hn:n≤1000000000) (hr:¬ (0≤r∧r<128)) (h1:-2147483648≤r) (h2:r≤2147483647):Det cx 251 [.own 1000 0 n,.p (.int .i32 r)] [(1000,.row 5 1 es)] (.own 900 0 (n+(utf r).length)) [(900,.row 5 1 (es ++ bstr (utf r)))]:=by
 (refine Bz.of_code (X:=cx) true [(10,900),(24,900),(49,900),(77,900)] (by simp) Tryz.func251 (by kernel_rfl) rfl (by simp only [List.length_cons,List.length_nil,Tryz.ntmps251];decide) (by simp) ?_;refine Ax hm _ _ _ ?_;simp only [Tryz.ntmps251,Tryz.results251,Ch,Ah,Bn,Bs,Ci,Cn,Ab,Ei,Bd,A0,Dq,Bb,Ep,Cs,Be,Az,C0,Cb,E1,Ba,Ai,B8,Kq,Em,Di,Fy,Bp,Br,C6,D6,Du,D4,Av,B0,Aq,Jfh,Jf5,u_or,D1,Pi,Js,Nv,Iy,Li,Io,Cr,G1,Oq,Ag,Ae,A3,Dp,Bk,E8,C1,B3,Dl,Fc,Hq,Ek,Ib,Jm,Ii,Dh,Jl,Gz,G8,Ha,G6,H7,H1,G0,F1,G3,E7,Gb,Km,F6,Jb,Jx,Aw,Ao,D2,Al,K6,Hl,Af,Ct,F3,Ma,Fa,Dx,C9,C8,A1,Ar,B1,Cw,Fv,E6,G2,Ky,F5,Ds,Fl,Db,Hf,A2,Ad,Ac,Bl,Cg,Bf,A6,argW,List.map_cons,List.map_nil,List.getD_cons_zero,List.getD_cons_succ,List.length_cons,List.length_nil,List.take_succ_cons,List.take_nil,List.drop_zero,decide_eq_true_eq,Nat.reduceLT,Nat.reduceLeDiff,Nat.reduceEqDiff,Nat.reduceAdd,Nat.reduceMul,Int.reduceToNat,Int.reduceLE,true_and,and_true,Ca,↓reduceIte,reduceCtorEq,Nat.zero_add,List.cons.injEq,Bool.false_eq_true,Bool.true_and,Bool.and_true,Bool.or_false,Bool.or_true,beq_self_eq_true,T8,Jgt,Jgx,Qc,Ry,Jek])
 (repeat' (first | (refine iteI (fun h=>?_) (fun h=>?_))|(refine B2 (by first | omega | (simp (disch:=omega) only [Aa,Ak,Aj] at *;omega)) ?_;intro b hb)|(refine And.intro (by first | omega | (simp (disch:=omega) only [Aa,Ak,Aj] at *;omega)) ?_)|((first | (refine A9 hm (by rfl) (by kernel_rfl) ?_));simp only [Dm])|(exact True.intro)|(exfalso;omega)))
 all_goals simp only [Ol] at *
 all_goals first | (have e:=Yz (r:=r) (by omega);refine ⟨by simp,(by first | assumption | omega),by omega,by omega,by rw [M4,e];rfl,?_⟩;rw [Nk,e];(try simp (disch:=omega) only [fd6,fd12,fd18,Fr r,Fr (r / 64),Fr (r / 4096),Fr (r / 262144),V8,Wf,V3,We,Wj]);simp;(try omega);done)|(have e:=Y6 (r:=r) (by omega);refine ⟨by simp,(by first | assumption | omega),by omega,by omega,by rw [M4,e];rfl,?_⟩;rw [Nk,e];(try simp (disch:=omega) only [fd6,fd12,fd18,Fr r,Fr (r / 64),Fr (r / 4096),Fr (r / 262144),V8,Wf,V3,We,Wj]);simp;(try omega);done)|(have e:=Za (r:=r) (by omega);refine ⟨by simp,(by first | assumption | omega),by omega,by omega,by rw [M4,e];rfl,?_⟩;rw [Nk,e];(try simp (disch:=omega) only [fd6,fd12,fd18,Fr r,Fr (r / 64),Fr (r / 4096),Fr (r / 262144),V8,Wf,V3,We,Wj]);simp;(try omega);done)|(have e:=Jgy (r:=r) (by omega);refine ⟨by simp,(by first | assumption | omega),by omega,by omega,by rw [M4,e];rfl,?_⟩;rw [Nk,e];(try simp (disch:=omega) only [fd6,fd12,fd18,Fr r,Fr (r / 64),Fr (r / 4096),Fr (r / 262144),V8,Wf,V3,We,Wj]);simp;(try omega);done)
theorem Sk (r:Int) (es:List (List PV)) (n:Nat) (hl:es.length=n) (hn:n≤1000000000) (h1:-2147483648≤r) (h2:r≤2147483647):Det cx 225 [.own 1000 0 n,.p (.int .i32 r)] [(1000,.row 5 1 es)] (.own 900 0 (n+(utf r).length)) [(900,.row 5 1 (es ++ bstr (utf r)))]:=by
 (refine Bz.of_code (X:=cx) true [(12,900),(15,900)] (by simp) Tryz.func225 (by kernel_rfl) rfl (by simp only [List.length_cons,List.length_nil,Tryz.ntmps225];decide) (by simp) ?_;refine Ax hm _ _ _ ?_;simp only [Tryz.ntmps225,Tryz.results225,Ch,Ah,Bn,Bs,Cn,Ab,Cf,Bd,A0,Bb,Cs,Be,Az,Ce,Cb,E1,Ba,Ai,B8,Kq,Di,Fy,Cc,Bp,Br,Av,B0,Aq,Pi,Nv,Iy,Li,Io,Cr,G1,Oq,Ag,Ae,A3,Cd,Bv,Sv,Bx,Bw,Ew,Dp,Bk,Dt,E8,F2,Ff,Fe,C1,B3,Dl,Hq,Ek,Bi,Ay,Ev,Et,Gw,Ey,Ee,Ez,Ho,Hp,Eu,Ed,Ib,Jm,Ii,Dh,Jl,Gz,G8,Ha,G6,H7,H1,G0,F1,G3,E7,Gb,Km,F6,Jb,Jx,Aw,Ao,D2,Al,K6,Hl,Af,Ct,F3,Ma,Fa,Dx,C9,C8,A1,Ar,B1,Cw,Fv,E6,G2,F5,Iw,Cj,Jr,Ds,Fl,Db,Hf,A2,Ad,Ac,Bl,Cg,Bf,A6,argW,List.map_cons,List.map_nil,List.length_cons,List.length_nil,List.append_nil,List.flatMap_cons,List.flatMap_nil,List.contains_cons,List.contains_nil,List.take_succ_cons,List.take_nil,List.drop_zero,decide_eq_true_eq,Nat.reduceLT,Nat.reduceLeDiff,Nat.reduceEqDiff,Nat.reduceAdd,Nat.reduceMul,true_and,and_true,Ca,Bu,↓reduceIte,reduceCtorEq,Nat.zero_add,List.cons.injEq,Bool.false_eq_true,Bool.true_and,Bool.and_true,Bool.or_false,Bool.or_true,beq_self_eq_true,T8,Jgt,Jgx,Qc,Ry,Jek])
 (repeat' (first | (refine iteI (fun h=>?_) (fun h=>?_))|(refine B2 (by first | omega | (simp (disch:=omega) only [Aa,Ak,Aj] at *;omega)) ?_;intro b hb)|(refine And.intro (by first | omega | (simp (disch:=omega) only [Aa,Ak,Aj] at *;omega)) ?_)|((first | (refine A9 hm (by rfl) (by kernel_rfl) ?_)|(refine Det.use (Np r es n hl hn (by simp only [Ol] at *;omega) h1 h2) ?_)|(refine Det.useQ (Np r es n hl hn (by simp only [Ol] at *;omega) h1 h2) ?_));simp only [Cn,Ab,Bd,A0,Bb,Cs,Be,Ai,Hv,Dn,Gc,Df,Eb,Gu,Hm,K8,E4,E2,Fg,Lv,G9,Gv,Jd,Dp,Bk,Dt,Gx,Fh,Fx,E8,C1,B3,Dl,Ek,Jx,Aw,Ao,D2,Al,K6,Hl,Af,Ct,F3,Ma,Fa,Dx,C9,C8,A1,Ar,A2,Ad,Ac,Cg,Bf,A6,List.append_nil,decide_eq_true_eq,ne_eq,not_false_eq_true,Nat.reduceLT,Nat.reduceLeDiff,Nat.reduceEqDiff,↓reduceIte,and_self])|(exact True.intro)|(exfalso;omega)))
 all_goals simp only [Ol] at *
 ·have e:=Wo (r:=r) (by omega)
  refine ⟨by simp,(by first | assumption | omega),by omega,by omega,by rw [M4,e];rfl,?_⟩;rw [Nk,e];(try simp (disch:=omega) only [fd6,fd12,fd18,Fr r,Fr (r / 64),Fr (r / 4096),Fr (r / 262144),V8,Wf,V3,We,Wj]);simp;(try omega)
theorem Nl (r:Int) (hr:¬ (0≤r∧r<128)) (h1:-2147483648≤r) (h2:r≤2147483647):Det cx 251 [.p .snil,.p (.int .i32 r)] [] (.own 900 0 (utf r).length) [(900,.row 5 1 (bstr (utf r)))]:=by
 (refine Bz.of_code (X:=cx) true [(10,900),(24,900),(49,900),(77,900)] (by simp) Tryz.func251 (by kernel_rfl) rfl (by simp only [List.length_cons,List.length_nil,Tryz.ntmps251];decide) (by simp) ?_;refine Ax hm _ _ _ ?_;simp only [Tryz.ntmps251,Tryz.results251,Ch,Ah,Bn,Bs,Ci,Cn,Ab,Ei,Bd,A0,Dq,Bb,Ep,Cs,Be,Az,C0,Cb,E1,Ba,Ai,B8,Kq,Em,Di,Fy,Bp,Br,C6,D6,Du,D4,Av,B0,Aq,Jfh,Jf5,u_or,D1,Pi,Js,Nv,Iy,Li,Io,Cr,Oq,Ag,Ae,A3,Dp,Bk,E8,C1,B3,Dl,Fc,Ek,Ib,Jm,Ii,Dh,Jl,Gz,G8,Ha,G6,H7,H1,G0,F1,G3,E7,Qq,F6,Jb,Jx,Aw,Ao,D2,K6,Hl,Af,Ct,F3,Ma,Fa,Dx,C9,C8,Ar,B1,Cw,Fv,E6,Ky,F5,Ds,Fl,Db,Hf,A2,Ad,Ac,Bl,Cg,Bf,A6,argW,List.map_cons,List.map_nil,List.getD_cons_zero,List.getD_cons_succ,List.length_cons,List.length_nil,List.take_succ_cons,List.take_nil,List.drop_zero,decide_eq_true_eq,Nat.reduceLT,Nat.reduceLeDiff,Nat.reduceEqDiff,Nat.reduceAdd,Nat.reduceMul,Int.reduceToNat,Int.reduceLE,true_and,and_true,Ca,↓reduceIte,reduceCtorEq,Nat.zero_add,List.cons.injEq,Bool.false_eq_true,Bool.true_and,Bool.and_true,Bool.or_false,Bool.or_true,beq_self_eq_true,T8,Jgt,Jgx,Qc,Ry,Jek])
 (repeat' (first | (refine iteI (fun h=>?_) (fun h=>?_))|(refine B2 (by first | omega | (simp (disch:=omega) only [Aa,Ak,Aj] at *;omega)) ?_;intro b hb)|(refine And.intro (by first | omega | (simp (disch:=omega) only [Aa,Ak,Aj] at *;omega)) ?_)|((first | (refine A9 hm (by rfl) (by kernel_rfl) ?_));simp only [Dm])|(exact True.intro)|(exfalso;omega)))
 all_goals simp only [Ol] at *
 all_goals first | (have e:=Yz (r:=r) (by omega);refine ⟨by simp,by rw [M4,e];rfl,?_⟩;rw [Nk,e];(try simp (disch:=omega) only [fd6,fd12,fd18,Fr r,Fr (r / 64),Fr (r / 4096),Fr (r / 262144),V8,Wf,V3,We,Wj]);simp;(try omega);done)|(have e:=Y6 (r:=r) (by omega);refine ⟨by simp,by rw [M4,e];rfl,?_⟩;rw [Nk,e];(try simp (disch:=omega) only [fd6,fd12,fd18,Fr r,Fr (r / 64),Fr (r / 4096),Fr (r / 262144),V8,Wf,V3,We,Wj]);simp;(try omega);done)|(have e:=Za (r:=r) (by omega);refine ⟨by simp,by rw [M4,e];rfl,?_⟩;rw [Nk,e];(try simp (disch:=omega) only [fd6,fd12,fd18,Fr r,Fr (r / 64),Fr (r / 4096),Fr (r / 262144),V8,Wf,V3,We,Wj]);simp;(try omega);done)|(have e:=Jgy (r:=r) (by omega);refine ⟨by simp,by rw [M4,e];rfl,?_⟩;rw [Nk,e];(try simp (disch:=omega) only [fd6,fd12,fd18,Fr r,Fr (r / 64),Fr (r / 4096),Fr (r / 262144),V8,Wf,V3,We,Wj]);simp;(try omega);done)
theorem Sw (r:Int) (h1:-2147483648≤r) (h2:r≤2147483647):Det cx 225 [.p .snil,.p (.int .i32 r)] [] (.own 900 0 (utf r).length) [(900,.row 5 1 (bstr (utf r)))]:=by
 (refine Bz.of_code (X:=cx) true [(12,900),(15,900)] (by simp) Tryz.func225 (by kernel_rfl) rfl (by simp only [List.length_cons,List.length_nil,Tryz.ntmps225];decide) (by simp) ?_;refine Ax hm _ _ _ ?_;simp only [Tryz.ntmps225,Tryz.results225,Ch,Ah,Bn,Bs,Cn,Ab,Cf,Bd,A0,Bb,Cs,Be,Az,Ce,Cb,E1,Ba,Ai,B8,Kq,Di,Fy,Cc,Bp,Br,Av,B0,Aq,Pi,Nv,Iy,Li,Io,Cr,Oq,Ag,Ae,A3,Cd,Bv,Sv,Bx,Bw,A5,Dp,Bk,E8,C1,B3,Dl,Ek,Bi,Ay,A4,Ib,Jm,Ii,Dh,Jl,Gz,G8,Ha,G6,H7,H1,G0,F1,G3,E7,Qq,F6,Jb,Jx,Aw,Ao,D2,K6,Hl,Af,Ct,F3,Ma,Fa,Dx,C9,C8,Ar,B1,Cw,Fv,E6,F5,Cj,Ds,Fl,Db,Hf,A2,Ad,Ac,Bl,Cg,Bf,A6,argW,List.map_cons,List.map_nil,List.length_cons,List.length_nil,List.append_nil,List.flatMap_cons,List.flatMap_nil,List.take_succ_cons,List.take_nil,List.drop_zero,decide_eq_true_eq,Nat.reduceLT,Nat.reduceLeDiff,Nat.reduceEqDiff,Nat.reduceMul,true_and,and_true,Ca,Bu,↓reduceIte,reduceCtorEq,Nat.zero_add,List.cons.injEq,Bool.true_and,Bool.and_true,Bool.or_true,beq_self_eq_true,T8,Jgt,Jgx,Qc,Ry,Jek])
 (repeat' (first | (refine iteI (fun h=>?_) (fun h=>?_))|(refine B2 (by first | omega | (simp (disch:=omega) only [Aa,Ak,Aj] at *;omega)) ?_;intro b hb)|(refine And.intro (by first | omega | (simp (disch:=omega) only [Aa,Ak,Aj] at *;omega)) ?_)|((first | (refine A9 hm (by rfl) (by kernel_rfl) ?_)|(refine Det.use (Nl r (by simp only [Ol] at *;omega) h1 h2) ?_)|(refine Det.useQ (Nl r (by simp only [Ol] at *;omega) h1 h2) ?_));simp only [Cn,Ab,Bd,A0,Bb,Cs,Be,Ai,H4,Hv,Dn,Gc,Df,Gu,Hm,K8,E4,Gv,Jd,Dp,Bk,Gx,E8,C1,B3,Dl,Ek,Jx,Aw,Ao,D2,K6,Hl,Af,Ct,F3,Ma,Fa,Dx,C9,C8,Ar,A2,Ad,Ac,Cg,Bf,A6,List.append_nil,Nat.reduceLT,Nat.reduceEqDiff,↓reduceIte,and_self])|(exact True.intro)|(exfalso;omega)))
 all_goals simp only [Ol] at *
 ·have e:=Wo (r:=r) (by omega)
  refine ⟨by simp,by rw [M4,e];rfl,?_⟩;rw [Nk,e];(try simp (disch:=omega) only [fd6,fd12,fd18,Fr r,Fr (r / 64),Fr (r / 4096),Fr (r / 262144),V8,Wf,V3,We,Wj]);simp;(try omega)
theorem M6 (r:Int) (es:List (List PV)) (n:Nat) (hl:es.length=n) (hn:n≤1000000000) (h1:-2147483648≤r) (h2:r≤2147483647):Det cx 178 [.ptr 1000 0 0,.p (.int .i32 r)] [(500001,.row 5 1 es),(1000,.var 128 [.ptr 1000 0 0,.own 500001 0 n])] (.tup [.int .i64 (utf r).length,.nifc]) [(500001,.row 5 1 (es ++ bstr (utf r))),(1000,.var 128 [.ptr 1000 0 0,.own 500001 0 (n+(utf r).length)])]:=by
 (refine Bz.of_code (X:=cx) false [(20,500001)] (by simp) Tryz.func178 (by kernel_rfl) rfl (by simp only [List.length_cons,List.length_nil,Tryz.ntmps178];decide) (by simp) ?_;refine Ax hm _ _ _ ?_;simp only [Tryz.ntmps178,Tryz.results178,Ah,Bn,Ab,Bd,A0,Bb,Be,Az,Ce,Cb,Ko,Ba,Ai,Cc,Ag,Ae,Hi,Cd,Bv,Bm,Bx,Bw,Ew,Dt,F2,Ff,Fe,Dy,C1,E3,Dl,F9,Ek,Bi,Ay,Ev,Et,Gw,Ey,Ee,Ez,Hk,Ho,Hp,Eu,Ed,Hg,Iw,Ie,Jr,Ad,Ac,argW,List.map_cons,List.map_nil,List.length_cons,List.length_nil,List.cons_append,List.nil_append,List.append_nil,List.flatMap_cons,List.flatMap_nil,List.contains_cons,List.contains_nil,Nat.reduceLT,Nat.reduceLeDiff,Nat.reduceEqDiff,Nat.reduceAdd,Nat.reduceBEq,true_and,Ca,Bu,↓reduceIte,reduceCtorEq,Nat.zero_add,Bool.false_eq_true,Bool.true_and,Bool.or_false,beq_self_eq_true])
 (repeat' (first | (refine iteI (fun h=>?_) (fun h=>?_))|(refine B2 (by first | omega | (simp (disch:=omega) only [Aa,Ak,Aj] at *;omega)) ?_;intro b hb)|(refine And.intro (by first | omega | (simp (disch:=omega) only [Aa,Ak,Aj] at *;omega)) ?_)|((first | (refine A9 hm (by rfl) (by kernel_rfl) ?_)|(refine Det.use (Kn _ _) ?_)|(refine Det.useQ (Kn _ _) ?_)|(refine Det.use (Sk r es n hl hn h1 h2) ?_)|(refine Det.useQ (Sk r es n hl hn h1 h2) ?_));simp only [Ah,Bn,Cn,Ab,Bd,A0,Bb,Dd,Cs,Be,Az,Ce,Ko,Ba,Ai,B8,Wc,D5,Gn,C2,Eg,Cc,Bp,Bg,Av,Aq,Nn,D9,Gg,Cv,Gd,C5,Da,Ej,K9,Mm,Jw,Gl,Jc,Fj,Ag,Ae,A3,Cd,Bv,Sv,Bx,Bw,Ew,Hv,Dn,G4,Fw,Gc,Df,Eb,Gu,G5,Hm,K8,E4,E2,Fg,Hr,Fm,Lv,Fi,G9,Gv,Ih,Jd,Dp,Bk,I4,Dt,Hz,Hx,Gx,Fh,Fx,E8,F2,Ff,Fe,Ji,Dy,C1,B3,E3,Dl,Fc,F9,Ek,u_ownN,Bi,Ay,Ev,Et,Gw,Ey,Ee,Ez,Ho,Hp,Eu,Ed,Bt,Cy,Cz,A7,A8,B9,Aw,Ao,D2,Al,B5,B6,Af,Ct,F3,Fa,Dx,C9,C8,Am,Ap,De,A1,Ar,Cu,Iw,Cj,Jr,A2,Ad,Ac,Cg,Bf,A6,List.map_cons,List.map_nil,List.length_cons,List.length_nil,List.cons_append,List.nil_append,List.append_nil,List.flatMap_cons,List.flatMap_nil,List.contains_cons,List.contains_nil,List.take_succ_cons,List.take_zero,List.drop_succ_cons,List.drop_nil,List.getElem?_cons_zero,List.getElem?_cons_succ,decide_eq_true_eq,ne_eq,not_false_eq_true,Nat.reduceLT,Nat.reduceLeDiff,Nat.reduceEqDiff,Nat.reduceAdd,Nat.reduceBEq,true_and,and_true,Ca,Bu,↓reduceIte,reduceCtorEq,Nat.zero_add,PV.int.injEq,L.tup.injEq,List.cons.injEq,Bool.false_eq_true,Bool.true_and,Bool.and_true,Bool.or_false,beq_self_eq_true,Um,Td,Tj,O0])|(exact True.intro)|(exfalso;omega)))
 have:=Zl r
 simp (disch:=omega) only [Aa]
 (try simp);(try omega)
theorem Rv (r:Int) (h1:-2147483648≤r) (h2:r≤2147483647):Det cx 178 [.ptr 1000 0 0,.p (.int .i32 r)] [(1000,.var 128 [.p .nptr,.p .snil])] (.tup [.int .i64 (utf r).length,.nifc]) [(900,.row 5 1 (bstr (utf r))),(1000,.var 128 [.ptr 1000 0 0,.own 900 0 (utf r).length])]:=by
 (refine Bz.of_code (X:=cx) false [(20,900)] (by simp) Tryz.func178 (by kernel_rfl) rfl (by simp only [List.length_cons,List.length_nil,Tryz.ntmps178];decide) (by simp) ?_;refine Ax hm _ _ _ ?_;simp only [Tryz.ntmps178,Tryz.results178,Ah,Bn,Ab,Bd,A0,Bb,Be,Az,Ce,Cb,Ko,Ba,Ai,Cc,Ag,Ae,Hi,Cd,Bv,Bm,Bx,Bw,Ew,Dt,F2,Ff,Fe,Dy,B3,E3,F9,Bi,Ay,Ev,Et,Gw,Ey,Ee,Ez,Ho,Hp,Eu,Ed,Hg,Cj,Ie,Ad,Ac,argW,List.map_cons,List.map_nil,List.length_cons,List.length_nil,List.append_nil,List.flatMap_cons,List.flatMap_nil,List.contains_cons,List.contains_nil,Nat.reduceLT,Nat.reduceEqDiff,Nat.reduceAdd,Ca,Bu,↓reduceIte,reduceCtorEq,Nat.zero_add,Bool.false_eq_true,Bool.or_false,beq_self_eq_true])
 (repeat' (first | (refine iteI (fun h=>?_) (fun h=>?_))|(refine B2 (by first | omega | (simp (disch:=omega) only [Aa,Ak,Aj] at *;omega)) ?_;intro b hb)|(refine And.intro (by first | omega | (simp (disch:=omega) only [Aa,Ak,Aj] at *;omega)) ?_)|((first | (refine A9 hm (by rfl) (by kernel_rfl) ?_)|(refine Det.use (J9) ?_)|(refine Det.useQ (J9) ?_)|(refine Det.use (Sw r h1 h2) ?_)|(refine Det.useQ (Sw r h1 h2) ?_));simp only [Ah,Bn,Cn,Ab,Bd,A0,Bb,Dd,Cs,Be,Az,Ce,Ko,Ba,Ai,B8,Wc,D5,Gn,C2,Eg,Cc,Bp,Bg,Av,Aq,Nn,D9,Sl,Gg,Cv,Gd,C5,Da,Ej,K9,Mm,Jw,Gl,Jc,Fj,Ag,Ae,A3,Cd,Bv,Sv,Bx,Bw,A5,H4,Hv,J3,Dn,G4,Fw,Gc,Df,Eb,Gu,G5,Hm,K8,E4,E2,Fg,Hr,Fm,Fi,G9,Gv,Ih,Jd,Dp,Bk,I4,Dt,Hz,Hx,Gx,Fh,Fx,E8,Dy,C1,B3,E3,Dl,Fc,F9,Ek,Bi,Ay,A4,Bt,Cy,Cz,A7,A8,B9,Aw,Ao,D2,B5,B6,Af,Ct,F3,Fa,Dx,C9,C8,Am,Ap,De,Ar,Cu,Cj,A2,Ad,Ac,Cg,Bf,A6,List.map_cons,List.map_nil,List.length_cons,List.length_nil,List.cons_append,List.nil_append,List.append_nil,List.flatMap_cons,List.flatMap_nil,List.take_succ_cons,List.take_zero,List.drop_succ_cons,List.drop_nil,List.getElem?_cons_zero,List.getElem?_cons_succ,decide_eq_true_eq,ne_eq,not_false_eq_true,Nat.reduceLT,Nat.reduceLeDiff,Nat.reduceEqDiff,Nat.reduceAdd,true_and,and_true,Ca,Bu,↓reduceIte,reduceCtorEq,Nat.zero_add,PV.int.injEq,L.tup.injEq,List.cons.injEq,Bool.true_and,Bool.and_true,Bool.or_false,Um,Td,Tj,O0])|(exact True.intro)|(exfalso;omega)))
 have:=Zl r
 simp (disch:=omega) only [Aa]
 (try simp);(try omega)
theorem Ox:Det cx 119 [.ptr 1000 0 0] [(1000,.var 128 [.p .nptr,.p .snil])] (.p (.str [])) [(1000,.var 128 [.p .nptr,.p .snil])]:=by
 (refine Bz.of_code (X:=cx) false [] (by simp) Tryz.func119 (by kernel_rfl) rfl (by simp only [List.length_cons,List.length_nil,Tryz.ntmps119];decide) (by simp) ?_;refine Ax hm _ _ _ ?_;simp only [Tryz.ntmps119,Tryz.results119,Ah,Bn,Ab,Bd,A0,Bb,Az,Hc,Ai,Iv,Ad,argW,List.map_cons,List.map_nil,Ca])
 (refine Qr 10 hm (by kernel_rfl) (by kernel_rfl) ?_;simp only [Cn,Ab,Bb,Cs,Be,Ai,Jm1,Je,W4,L2,Od,Jfo,q_usd,Bg,Jci,Jeg,Q4,D9,Sl,Cv,Gd,C5,Da,Ej,K9,Ag,Ae,A3,Jrg,Jcv,Jb9,Bt,Cy,Cz,A7,A8,B9,Aw,Ao,D2,Al,B5,B6,Af,Am,Ap,Cl,A1,Ar,S2,Jct,S5,Tm,Ww,A2,Ad,Ac,List.map_cons,List.map_nil,List.getElem?_cons_zero,List.getElem?_cons_succ,Nat.reduceLT,Nat.reduceEqDiff,Nat.reduceAdd,true_and,and_true,Ca,↓reduceIte,reduceCtorEq,Nat.zero_add,L.p.injEq,PV.int.injEq,Bool.true_and,Bool.and_true,and_self,Um,Td,Tj,O0])
 exact ⟨_,rfl⟩
theorem Nh (s:List UInt8) (n:Nat) (hn:s.length=n) (h1:n≤1000000000) (h0:n≠0):Det cx 119 [.ptr 1000 0 0] [(500001,.row 5 1 (bstr s)),(1000,.var 128 [.ptr 1000 0 0,.own 500001 0 n])] (.p (.str s)) [(1000,.var 128 [.ptr 1000 0 0,.junk])]:=by
 skip
 (refine Bz.of_code (X:=cx) false [] (by simp) Tryz.func119 (by kernel_rfl) rfl (by simp only [List.length_cons,List.length_nil,Tryz.ntmps119];decide) (by simp) ?_;refine Ax hm _ _ _ ?_;simp only [Tryz.ntmps119,Tryz.results119,Ah,Bn,Ab,Bd,A0,Bb,Az,Hc,Ai,Iv,Ad,argW,List.map_cons,List.map_nil,Ca])
 (refine Qr 10 hm (by kernel_rfl) (by kernel_rfl) ?_;simp only [Cn,Ab,Bb,Be,Ai,Jm1,Je,W4,L2,Od,Jfo,q_usd,Bg,Jci,Jeg,Q4,D9,Gg,Cv,Gd,C5,Da,Ej,K9,G1,Ag,Ae,A3,Jrg,Jb4,Jep,u_usT,u_usB,u_usR,Bt,Cy,Cz,A7,A8,B9,Aw,Ao,D2,Al,B5,B6,Af,Am,Ap,Cl,A1,Ar,B1,Cw,Hw,E6,H3,F5,S2,Jct,S5,Tm,Ww,A2,Ad,Ac,Bl,Bf,A6,List.map_cons,List.map_nil,List.getElem?_cons_zero,List.getElem?_cons_succ,ne_eq,Nat.reduceLT,Nat.reduceEqDiff,Nat.reduceAdd,true_and,and_true,Ca,↓reduceIte,reduceCtorEq,Nat.zero_add,Aj,Bool.true_and,Bool.and_true,and_self,f_c5,Um,Td,Tj,O0,f_u191,Jkr])
 have h2:s≠[]:=fun h=>by subst h;exact h0 (by rw [← hn];rfl)
 simp [hn,h2];omega
end Go.LX
