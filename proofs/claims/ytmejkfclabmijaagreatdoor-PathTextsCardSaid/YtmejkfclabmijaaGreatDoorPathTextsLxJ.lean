/- strings.Builder, unicode/utf8.AppendRune. -/
import Derived.Test.YtmejkfclabmijaaGreatDoorPathTextsLxH
set_option linter.unusedSimpArgs false
set_option linter.unusedVariables false
set_option linter.unusedSectionVars false
set_option linter.unnecessarySimpa false
set_option maxRecDepth 100000
set_option maxHeartbeats 2000000
namespace Go.LX
open Go Go.RowKit Go.Proofs
attribute [local irreducible] B2 SWP Hb
theorem Jnc (a:L):Er cx 234 [a] a:=by
 intro β Im w vs hl ha
 match vs,hl with
 | [v],_ =>
  refine ⟨v,?_,ha 0 v a rfl rfl⟩
  show (callFunc 234 #[v]).run Tryz.prog w=_
  rw [run_callFunc_extern Tryz.func234 (by kernel_rfl) (by kernel_rfl) (by kernel_rfl) (e:=Extern.AbiNoEscape.same) (by kernel_rfl),Lib.run_noEscape]
  rfl
theorem f_lies:liesAt Tryz.prog Tryz.prog.depth 128 1 0 128 1=true:=by kernel_rfl
def bstr (s:List UInt8):List (List PV):=s.map fun c=>[.int .u8 c.toNat]
theorem Mw (s:List UInt8):(bstr s).length=s.length:=by simp [bstr]
theorem Jru (c:UInt8) (s:List UInt8):bstr (c :: s)=[.int .u8 c.toNat] :: bstr s:=(rfl)
theorem Rw (a b:List UInt8):bstr (a ++ b)=bstr a ++ bstr b:=by simp [bstr]
theorem Jln (a:List UInt8):∀ q∈bstr a,q.length=1:=by simp [bstr]
theorem Jdt:∀ s:List UInt8,Lk (bstr s)=some s
 | []=>rfl
 | c :: s=>by
  rw [Jru,Ly,Jdt s]
  have:=c.toNat_lt
  simp only [Y4]
  rw [if_pos (by omega)]
  simp
theorem Jjl {s:List UInt8} {C:List UInt8→Prop}:H9 (Lk (bstr s)) C=C s:=by rw [Jdt,Bo]
theorem mem_one (c:PV):(∀ q∈[[c]],q.length=1)=True:=by simp
theorem Ws (x:Int) (h0:0≤x) (h1:x<32):IntKind.u8.wrap (BitVec.ofInt IntKind.u8.bits 192 ||| BitVec.ofInt IntKind.u8.bits x).toNat=192+x:=by
 obtain ⟨n,rfl⟩:=Int.eq_ofNat_of_zero_le h0
 have:n<32:=by omega
 have key:∀ m:Fin 32,IntKind.u8.wrap (BitVec.ofInt IntKind.u8.bits 192 ||| BitVec.ofInt IntKind.u8.bits (m.val:Int)).toNat=192+(m.val:Int):=by decide
 exact key ⟨n,this⟩
theorem Wx (x:Int) (h0:0≤x) (h1:x<16):IntKind.u8.wrap (BitVec.ofInt IntKind.u8.bits 224 ||| BitVec.ofInt IntKind.u8.bits x).toNat=224+x:=by
 obtain ⟨n,rfl⟩:=Int.eq_ofNat_of_zero_le h0
 have key:∀ m:Fin 16,IntKind.u8.wrap (BitVec.ofInt IntKind.u8.bits 224 ||| BitVec.ofInt IntKind.u8.bits (m.val:Int)).toNat=224+(m.val:Int):=by decide
 exact key ⟨n,by omega⟩
theorem W3 (x:Int) (h0:0≤x) (h1:x<8):IntKind.u8.wrap (BitVec.ofInt IntKind.u8.bits 240 ||| BitVec.ofInt IntKind.u8.bits x).toNat=240+x:=by
 obtain ⟨n,rfl⟩:=Int.eq_ofNat_of_zero_le h0
 have key:∀ m:Fin 8,IntKind.u8.wrap (BitVec.ofInt IntKind.u8.bits 240 ||| BitVec.ofInt IntKind.u8.bits (m.val:Int)).toNat=240+(m.val:Int):=by decide
 exact key ⟨n,by omega⟩
theorem Wm (x:Int) (h0:0≤x) (h1:x<64):IntKind.u8.wrap (BitVec.ofInt IntKind.u8.bits 128 ||| BitVec.ofInt IntKind.u8.bits x).toNat=128+x:=by
 obtain ⟨n,rfl⟩:=Int.eq_ofNat_of_zero_le h0
 have key:∀ m:Fin 64,IntKind.u8.wrap (BitVec.ofInt IntKind.u8.bits 128 ||| BitVec.ofInt IntKind.u8.bits (m.val:Int)).toNat=128+(m.val:Int):=by decide
 exact key ⟨n,by omega⟩
theorem W4 (x:Int) (h0:0≤x) (h1:x<256):IntKind.u8.wrap (BitVec.ofInt IntKind.u8.bits x &&& BitVec.ofInt IntKind.u8.bits 63).toNat=x % 64:=by
 obtain ⟨n,rfl⟩:=Int.eq_ofNat_of_zero_le h0
 have key:∀ m:Fin 256,IntKind.u8.wrap (BitVec.ofInt IntKind.u8.bits (m.val:Int) &&& BitVec.ofInt IntKind.u8.bits 63).toNat=(m.val:Int) % 64:=by decide
 exact key ⟨n,by omega⟩
theorem fd6 (r:Int):r.fdiv (2 ^ min 6 IntKind.i32.bits)=r / 64:=by
 rw [Int.fdiv_eq_ediv_of_nonneg _ (by decide)];rfl
theorem fd12 (r:Int):r.fdiv (2 ^ min 12 IntKind.i32.bits)=r / 4096:=by
 rw [Int.fdiv_eq_ediv_of_nonneg _ (by decide)];rfl
theorem fd18 (r:Int):r.fdiv (2 ^ min 18 IntKind.i32.bits)=r / 262144:=by
 rw [Int.fdiv_eq_ediv_of_nonneg _ (by decide)];rfl
def utfC (r:Int):List Int :=
 if 0≤r∧r<128 then [r]
 else if 0≤r∧r<2048 then [192+r / 64,128+r % 64]
 else if (0≤r∧r<55296)∨(57343<r∧r<65536) then [224+r / 4096,128+r / 64 % 64,128+r % 64]
 else if 65536≤r∧r≤1114111 then [240+r / 262144,128+r / 4096 % 64,128+r / 64 % 64,128+r % 64]
 else [239,191,189]
theorem Vv {r:Int} (h:0≤r∧r<128):utfC r=[r]:=if_pos h
theorem Xa {r:Int} (h:128≤r∧r<2048):utfC r=[192+r / 64,128+r % 64]:=by unfold utfC;rw [if_neg (by omega),if_pos (by omega)]
theorem Xm {r:Int} (h:(2048≤r∧r<55296)∨(57343<r∧r<65536)):utfC r=[224+r / 4096,128+r / 64 % 64,128+r % 64]:=by unfold utfC;rw [if_neg (by omega),if_neg (by omega),if_pos (by omega)]
theorem Xr {r:Int} (h:65536≤r∧r≤1114111):utfC r=[240+r / 262144,128+r / 4096 % 64,128+r / 64 % 64,128+r % 64]:=by unfold utfC;rw [if_neg (by omega),if_neg (by omega),if_neg (by omega),if_pos (by omega)]
theorem Ji0 {r:Int} (h:¬ (0≤r∧r<55296)∧¬ (57343<r∧r≤1114111)):utfC r=[239,191,189]:=by unfold utfC;rw [if_neg (by omega),if_neg (by omega),if_neg (by omega),if_neg (by omega)]
def utf (r:Int):List UInt8:=(utfC r).map u8of
theorem utfC_ok (r:Int):∀ c∈utfC r,0≤c∧c<256:=by
 unfold utfC
 split
 ·simp;omega
 split
 ·simp;omega
 split
 ·simp;omega
 split
 ·simp;omega
 ·simp
theorem J4 {c:Int} (h0:0≤c) (h1:c<256):((u8of c).toNat:Int)=c:=by
 unfold u8of
 simp
 omega
theorem Oe (r:Int):bstr (utf r)=(utfC r).map fun c=>[PV.int .u8 c]:=by
 simp only [bstr,utf,List.map_map]
 apply List.map_congr_left
 intro c hc
 obtain ⟨h0,h1⟩:=utfC_ok r c hc
 simp [J4 h0 h1]
theorem Nw (r:Int):(utf r).length=(utfC r).length:=by simp [utf]
theorem Zj (r:Int):(utf r).length≤4:=by
 rw [Nw];unfold utfC
 repeat' split
 all_goals simp
theorem K3:Det cx 189 [.ptr 1000 0 0] [(1000,.var 128 [.p .nptr,.p .snil])] (.tup []) [(1000,.var 128 [.ptr 1000 0 0,.p .snil])]:=by
 (refine B2.of_code (X:=cx) false [] (by simp) Tryz.func189 (by kernel_rfl) rfl (by simp only [List.length_cons,List.length_nil,Tryz.ntmps189];decide) (by simp) ?_;refine Ax hm _ _ _ ?_;simp only [Tryz.ntmps189,Tryz.results189,Ah,Bm,Br,Ab,Bd,A1,Bc,Bf,A0,Ch,Jny,A9,B8,Kb,Wr,Ed,C8,Cg,Bl,Bq,Jmn,Jtf,Si,Bt,Ar,Zl,Jcj,C0,G3,C5,Dv,E0,Lu,Cf,Bv,Jj7,Aw,Ad,Ac,argW,List.map_cons,List.map_nil,List.length_cons,List.length_nil,List.getElem?_cons_zero,ne_eq,not_false_eq_true,Nat.reduceLT,Nat.reduceEqDiff,Nat.reduceAdd,true_and,Cc,Bw,↓reduceIte,reduceCtorEq,Nat.zero_add,Bool.true_and,Bool.or_true,Jil,Jmx,Jiq,Jhy,X1,Jma])
 (repeat' (first | (refine iteI (fun h=>?_) (fun h=>?_))|(refine B1 (by first | omega | (simp (disch:=omega) only [Aa,Ak,Ai] at *;omega)) ?_;intro b hb)|(refine And.intro (by first | omega | (simp (disch:=omega) only [Aa,Ak,Ai] at *;omega)) ?_)|((first | (refine Ba hm (by rfl) (by kernel_rfl) ?_)|(refine Er.use (Jnc _) ?_));simp only [Bd,A1,Bc,C1,Ct,Bf,Kb,Wr,Fk,C8,Bo,Zl,Y3,C0,G3,Lu,Jj0,Iz,Fj,Ii,Ef,Ag,A6,B9,Av,Ap,Em,Al,B7,B5,Af,Am,Jck,Ay,Aw,Cp,Uf,Ad,Ac,List.length_cons,List.length_nil,List.cons_append,List.nil_append,List.take_zero,List.drop_succ_cons,List.drop_zero,ne_eq,not_false_eq_true,Nat.reduceLT,Nat.reduceLeDiff,Nat.reduceEqDiff,Nat.reduceAdd,and_true,Cc,↓reduceIte,reduceCtorEq,Nat.zero_add,Bool.and_true,and_self,Jil,Jiq,Jhy,X1,Jsp,Jma])|(exact True.intro)|(exfalso;omega)))
 exact f_lies
theorem Ld (es:List (List PV)) (n:Nat):Det cx 189 [.ptr 1000 0 0] [(500001,.row 5 1 es),(1000,.var 128 [.ptr 1000 0 0,.own 500001 0 n])] (.tup []) [(500001,.row 5 1 es),(1000,.var 128 [.ptr 1000 0 0,.own 500001 0 n])]:=by
 (refine B2.of_code (X:=cx) false [] (by simp) Tryz.func189 (by kernel_rfl) rfl (by simp only [List.length_cons,List.length_nil,Tryz.ntmps189];decide) (by simp) ?_;refine Ax hm _ _ _ ?_;simp only [Tryz.ntmps189,Tryz.results189,Cb,Ah,Bm,Br,Ab,Bd,A1,Bc,Bf,A0,Jny,A9,B8,Wr,Ed,C8,Bl,Bq,Jmn,Jsw,Jpm,Jkg,Si,Mf,Bt,Ar,C0,G3,C5,Dv,E0,Lu,Ag,A6,B9,Av,Ap,Em,Al,B7,B5,Af,Am,Jck,Ay,Aw,Uf,Ad,Ac,argW,List.map_cons,List.map_nil,List.getElem?_cons_zero,ne_eq,not_false_eq_true,Nat.reduceLT,Nat.reduceEqDiff,Cc,↓reduceIte,reduceCtorEq,Nat.zero_add,Bool.not_true,Bool.false_eq_true,Bool.and_true,Bool.or_false,Bool.or_true,beq_self_eq_true,and_self,Jil,Jmx,Jiq,Jhy,X1])
theorem Sg (c:Int):Det cx 180 [.ptr 1000 0 0,.p (.int .u8 c)] [(1000,.var 128 [.p .nptr,.p .snil])] (.p .nifc) [(900,.row 5 1 [[.int .u8 c]]),(1000,.var 128 [.ptr 1000 0 0,.own 900 0 1])]:=by
 (refine B2.of_code (X:=cx) false [(14,900)] (by simp) Tryz.func180 (by kernel_rfl) rfl (by simp only [List.length_cons,List.length_nil,Tryz.ntmps180];decide) (by simp) ?_;refine Ax hm _ _ _ ?_;simp only [Tryz.ntmps180,Tryz.results180,Ah,Bm,Ab,Bd,A1,Bc,Bf,A0,Ch,Lf,A9,Aj,Cg,Ag,Ae,H1,Cf,Bv,Bi,Bz,Bx,Fb,D7,Gn,Fr,Fq,Eg,B6,Fi,Gw,Bh,Az,Ff,Fe,Hj,Fd,Eu,Fc,Ie,Ig,Fa,Ew,H2,Cl,I5,Ad,Ac,argW,List.map_cons,List.map_nil,List.length_cons,List.length_nil,List.append_nil,List.flatMap_cons,List.flatMap_nil,List.contains_cons,List.contains_nil,Nat.reduceLT,Nat.reduceEqDiff,Nat.reduceAdd,Cc,Bw,↓reduceIte,reduceCtorEq,Nat.zero_add,Bool.false_eq_true,Bool.or_false,beq_self_eq_true])
 (repeat' (first | (refine iteI (fun h=>?_) (fun h=>?_))|(refine B1 (by first | omega | (simp (disch:=omega) only [Aa,Ak,Ai] at *;omega)) ?_;intro b hb)|(refine And.intro (by first | omega | (simp (disch:=omega) only [Aa,Ak,Ai] at *;omega)) ?_)|((first | (refine Ba hm (by rfl) (by kernel_rfl) ?_)|(refine Det.use (K3) ?_)|(refine Det.useQ (K3) ?_));simp only [Ah,Bm,Cn,Ab,Bd,A1,Bc,C1,Ct,Bf,A0,Lf,A9,Aj,Wr,Ed,Fk,C8,Df,F8,Bo,Bl,C0,G3,C5,Dv,E0,Lu,Cu,Ma,M9,Iz,Fj,Ii,Ef,Ag,Ae,A3,Ik,Kt,Gk,Dz,Es,Hk,Hp,Fm,Fh,Fs,Fx,Fv,Hl,Jd,D6,Bu,D7,Iu,Ip,Fn,Eg,Di,B6,Fi,D2,Et,Gw,Ey,Ht,Ji,Il,Dg,Jg,Gp,Gr,Gs,Gu,Hu,Ho,Hc,F5,G5,E1,Rf,F2,Jk,Bs,Cs,Cr,A6,A7,B9,Av,Ap,Em,B7,B5,Af,C3,Gj,Fl,D8,Dr,Du,Am,Ao,Co,Aw,B4,C4,Cp,Hy,Fy,Ez,Ks,H8,Ga,C7,El,Cz,F1,A2,Ad,Ac,Bn,Cq,Bg,Bb,List.map_cons,List.map_nil,List.length_cons,List.length_nil,List.cons_append,List.nil_append,List.append_nil,List.take_succ_cons,List.take_zero,List.take_nil,List.drop_succ_cons,List.drop_zero,List.drop_nil,List.getElem?_cons_zero,List.getElem?_cons_succ,ne_eq,not_false_eq_true,Nat.reduceLT,Nat.reduceLeDiff,Nat.reduceEqDiff,Nat.reduceAdd,Nat.reduceMul,true_and,and_true,Cc,↓reduceIte,reduceCtorEq,Nat.zero_add,Bool.true_and,Bool.and_true,beq_self_eq_true,and_self,Jac,Jit,Ts,Tw,Pq,Pi])|(exact True.intro)|(exfalso;omega)))
 simp
theorem Nx (c:Int) (es:List (List PV)) (n:Nat) (h:es.length=n) (hn:n≤1000000000):Det cx 180 [.ptr 1000 0 0,.p (.int .u8 c)] [(500001,.row 5 1 es),(1000,.var 128 [.ptr 1000 0 0,.own 500001 0 n])] (.p .nifc) [(500001,.row 5 1 (es ++ [[.int .u8 c]])),(1000,.var 128 [.ptr 1000 0 0,.own 500001 0 (n+1)])]:=by
 (refine B2.of_code (X:=cx) false [(14,500001)] (by simp) Tryz.func180 (by kernel_rfl) rfl (by simp only [List.length_cons,List.length_nil,Tryz.ntmps180];decide) (by simp) ?_;refine Ax hm _ _ _ ?_;simp only [Tryz.ntmps180,Tryz.results180,Ah,Bm,Ab,Bd,A1,Bc,Bf,A0,Ch,Lf,A9,Aj,Cg,Ag,Ae,H1,Cf,Bv,Bi,Bz,Bx,Fb,D7,Gn,Fr,Fq,Eg,Di,Fi,D2,Gw,Ey,Bh,Az,Ff,Fe,Hj,Fd,Eu,Fc,H3,Ie,Ig,Fa,Ew,H2,Jq,I5,Ki,Ad,Ac,argW,List.map_cons,List.map_nil,List.length_cons,List.length_nil,List.cons_append,List.nil_append,List.append_nil,List.flatMap_cons,List.flatMap_nil,List.contains_cons,List.contains_nil,Nat.reduceLT,Nat.reduceLeDiff,Nat.reduceEqDiff,Nat.reduceAdd,Nat.reduceBEq,true_and,Cc,Bw,↓reduceIte,reduceCtorEq,Nat.zero_add,Bool.false_eq_true,Bool.true_and,Bool.or_false,beq_self_eq_true])
 (repeat' (first | (refine iteI (fun h=>?_) (fun h=>?_))|(refine B1 (by first | omega | (simp (disch:=omega) only [Aa,Ak,Ai] at *;omega)) ?_;intro b hb)|(refine And.intro (by first | omega | (simp (disch:=omega) only [Aa,Ak,Ai] at *;omega)) ?_)|((first | (refine Ba hm (by rfl) (by kernel_rfl) ?_)|(refine Det.use (Ld _ _) ?_)|(refine Det.useQ (Ld _ _) ?_));simp only [Ah,Bm,Cn,Ab,Bd,A1,Bc,C1,Ct,Bf,A0,Lf,A9,Aj,Wr,Ed,Fk,C8,Df,F8,Bo,Bl,C0,G3,C5,Dv,E0,Lu,Cu,G6,Ma,M9,Iz,Fj,Ii,Ef,Ag,Ae,A3,Ik,D3,Gk,Dz,Es,Hk,Hp,Fm,Fh,Fs,Fx,Fv,Hl,Jd,D6,Bu,D7,Iu,Ip,Ft,Gl,Fn,Eg,Di,B6,Fi,D2,Et,H7,Gw,Ey,Ht,Ji,Il,Dg,Jg,Gp,Gr,Gs,Gu,Hu,Ho,Hc,F5,G5,E1,Gg,Kz,F2,Jk,Bs,Cs,Cr,A6,A7,B9,Av,Ap,Em,Al,B7,B5,Af,C3,Gj,Fl,D8,Dr,Du,Am,Ao,Co,Ay,Aw,B4,C4,Cp,Hy,Fy,Ez,G7,Ks,H8,Ga,C7,El,Cz,F1,A2,Ad,Ac,Bn,Cq,Bg,Bb,List.map_cons,List.map_nil,List.length_cons,List.length_nil,List.cons_append,List.nil_append,List.append_nil,List.take_succ_cons,List.take_zero,List.take_nil,List.drop_succ_cons,List.drop_zero,List.drop_nil,List.getElem?_cons_zero,List.getElem?_cons_succ,ne_eq,not_false_eq_true,Nat.reduceLT,Nat.reduceLeDiff,Nat.reduceEqDiff,Nat.reduceAdd,Nat.reduceMul,true_and,and_true,Cc,↓reduceIte,reduceCtorEq,Nat.zero_add,Bool.true_and,Bool.and_true,beq_self_eq_true,and_self,Jac,Jit,Ts,Tw,Pq,Pi])|(exact True.intro)|(exfalso;omega)))
 simp;omega
theorem Jo (s:List UInt8) (es:List (List PV)) (n:Nat) (h:es.length=n) (hn:n≤1000000000) (hs:s.length≤1000000000):Det cx 118 [.ptr 1000 0 0,.p (.str s)] [(500001,.row 5 1 es),(1000,.var 128 [.ptr 1000 0 0,.own 500001 0 n])] (.tup [.int .i64 s.length,.nifc]) [(500001,.row 5 1 (es ++ bstr s)),(1000,.var 128 [.ptr 1000 0 0,.own 500001 0 (n+s.length)])]:=by
 (refine B2.of_code (X:=cx) false [(14,500001)] (by simp) Tryz.func118 (by kernel_rfl) rfl (by simp only [List.length_cons,List.length_nil,Tryz.ntmps118];decide) (by simp) ?_;refine Ax hm _ _ _ ?_;simp only [Tryz.ntmps118,Tryz.results118,Ah,Bm,Ab,Bd,A1,Bc,Bf,A0,Ch,Ca,Lf,A9,Aj,Cg,Ag,Ae,H1,Cf,Bv,Bi,Bz,Bx,Fb,D7,Gn,Fr,Fq,Eg,Di,Fi,D2,Gw,Ey,Bh,Az,Ff,Fe,Hj,Fd,Eu,Fc,H3,Ie,Ig,Fa,Ew,H2,Jq,I5,Ki,Ad,Ac,argW,List.map_cons,List.map_nil,List.length_cons,List.length_nil,List.cons_append,List.nil_append,List.append_nil,List.flatMap_cons,List.flatMap_nil,List.contains_cons,List.contains_nil,Nat.reduceLT,Nat.reduceLeDiff,Nat.reduceEqDiff,Nat.reduceAdd,Nat.reduceBEq,true_and,Cc,Bw,↓reduceIte,reduceCtorEq,Nat.zero_add,Bool.false_eq_true,Bool.true_and,Bool.or_false,beq_self_eq_true])
 (repeat' (first | (refine iteI (fun h=>?_) (fun h=>?_))|(refine B1 (by first | omega | (simp (disch:=omega) only [Aa,Ak,Ai] at *;omega)) ?_;intro b hb)|(refine And.intro (by first | omega | (simp (disch:=omega) only [Aa,Ak,Ai] at *;omega)) ?_)|((first | (refine Ba hm (by rfl) (by kernel_rfl) ?_)|(refine Det.use (Ld _ _) ?_)|(refine Det.useQ (Ld _ _) ?_));simp only [Ah,Bm,Cn,Ab,Bd,A1,Bc,C1,Ct,Bf,A0,Lf,A9,Aj,Wr,Ed,Fk,C8,Dw,F8,Bo,Bl,Ds,Dl,C0,G3,C5,Dv,E0,Lu,Cu,G6,M9,Iz,Fj,Ii,Ef,Ag,Ae,A3,Ik,D3,Gk,Dz,Es,Hk,Hp,Fm,Fh,Fs,Fx,Fv,Hl,Jd,D6,Bu,D7,Iu,Ip,Ft,Gl,Fn,Eg,Di,B6,Fi,D2,Et,H7,Gw,Ey,Il,Hc,F5,Jam,T6,Je7,Gg,Kz,Bs,Cs,Cr,A6,A7,B9,Av,Ap,Em,Al,B7,B5,Af,C3,Gj,Fl,D8,Dr,Du,Am,Ao,Cy,Ay,Aw,B4,C4,Cp,Hy,Ez,G7,Ks,H8,Ga,A2,Ad,Ac,Bn,Cq,Bg,Bb,List.map_cons,List.map_nil,List.length_cons,List.length_nil,List.cons_append,List.nil_append,List.append_nil,List.length_map,List.take_succ_cons,List.take_zero,List.drop_succ_cons,List.drop_nil,List.getElem?_cons_zero,List.getElem?_cons_succ,ne_eq,not_false_eq_true,Nat.reduceLT,Nat.reduceLeDiff,Nat.reduceEqDiff,Nat.reduceAdd,true_and,and_true,Cc,↓reduceIte,reduceCtorEq,Nat.zero_add,List.cons.injEq,Bool.true_and,Bool.and_true,Qs,Jac,Jg4,Jit,Hi,Ts,Tw,Pq,Pi])|(exact True.intro)|(exfalso;omega)))
 exact ⟨Jln s,h,by omega,by omega,rfl⟩
theorem Ob (r:Int) (es:List (List PV)) (n:Nat) (hl:es.length=n) (hn:n≤1000000000) (hr:¬ (0≤r∧r<128)) (h1:-2147483648≤r) (h2:r≤2147483647):Det cx 251 [.own 1000 0 n,.p (.int .i32 r)] [(1000,.row 5 1 es)] (.own 900 0 (n+(utf r).length)) [(900,.row 5 1 (es ++ bstr (utf r)))]:=by
 (refine B2.of_code (X:=cx) true [(10,900),(24,900),(49,900),(77,900)] (by simp) Tryz.func251 (by kernel_rfl) rfl (by simp only [List.length_cons,List.length_nil,Tryz.ntmps251];decide) (by simp) ?_;refine Ax hm _ _ _ ?_;simp only [Tryz.ntmps251,Tryz.results251,Cb,Ah,Bm,Br,Ce,Cn,Ab,Ea,Bd,A1,Da,Bc,D9,Ct,Bf,A0,Cw,Ca,E4,A9,Aj,B8,Kb,D0,Df,F8,Bo,Bq,C2,Dq,Db,Dn,Au,Bt,Ar,Jgw,Jg3,u_or,Dm,Pr,Je,L4,Hz,Kl,Hn,Cu,G6,Ma,Ag,Ae,A3,D6,Bu,Fn,Di,B6,D2,Et,H7,Ey,Ht,Ji,Il,Dg,Jg,Gp,Gr,Gs,Gu,Hu,Ho,Hc,F5,G5,E1,Gg,Kz,F2,Jk,Km,Av,Ap,Em,Al,Ls,H5,Af,C3,Gj,Mx,Fl,D8,Dr,Du,Ay,Aw,B4,C4,Fy,Ez,G7,Ks,Ga,C7,El,Cz,F1,A2,Ad,Ac,Bn,Cq,Bg,Bb,argW,List.map_cons,List.map_nil,List.getD_cons_zero,List.getD_cons_succ,List.length_cons,List.length_nil,List.take_succ_cons,List.take_nil,List.drop_zero,decide_eq_true_eq,Nat.reduceLT,Nat.reduceLeDiff,Nat.reduceEqDiff,Nat.reduceAdd,Nat.reduceMul,Int.reduceToNat,Int.reduceLE,true_and,and_true,Cc,↓reduceIte,reduceCtorEq,Nat.zero_add,List.cons.injEq,Bool.false_eq_true,Bool.true_and,Bool.and_true,Bool.or_false,Bool.or_true,beq_self_eq_true,Qs,Jac,Jit,Q0,Pq,Jey])
 (repeat' (first | (refine iteI (fun h=>?_) (fun h=>?_))|(refine B1 (by first | omega | (simp (disch:=omega) only [Aa,Ak,Ai] at *;omega)) ?_;intro b hb)|(refine And.intro (by first | omega | (simp (disch:=omega) only [Aa,Ak,Ai] at *;omega)) ?_)|((first | (refine Ba hm (by rfl) (by kernel_rfl) ?_));simp only [Dh])|(exact True.intro)|(exfalso;omega)))
 all_goals simp only [O5] at *
 all_goals first | (have e:=Xa (r:=r) (by omega);refine ⟨by simp,(by first | assumption | omega),by omega,by omega,by rw [Nw,e];rfl,?_⟩;rw [Oe,e];(try simp (disch:=omega) only [fd6,fd12,fd18,F9 r,F9 (r / 64),F9 (r / 4096),F9 (r / 262144),W4,Ws,Wm,Wx,W3]);simp;(try omega);done)|(have e:=Xm (r:=r) (by omega);refine ⟨by simp,(by first | assumption | omega),by omega,by omega,by rw [Nw,e];rfl,?_⟩;rw [Oe,e];(try simp (disch:=omega) only [fd6,fd12,fd18,F9 r,F9 (r / 64),F9 (r / 4096),F9 (r / 262144),W4,Ws,Wm,Wx,W3]);simp;(try omega);done)|(have e:=Xr (r:=r) (by omega);refine ⟨by simp,(by first | assumption | omega),by omega,by omega,by rw [Nw,e];rfl,?_⟩;rw [Oe,e];(try simp (disch:=omega) only [fd6,fd12,fd18,F9 r,F9 (r / 64),F9 (r / 4096),F9 (r / 262144),W4,Ws,Wm,Wx,W3]);simp;(try omega);done)|(have e:=Ji0 (r:=r) (by omega);refine ⟨by simp,(by first | assumption | omega),by omega,by omega,by rw [Nw,e];rfl,?_⟩;rw [Oe,e];(try simp (disch:=omega) only [fd6,fd12,fd18,F9 r,F9 (r / 64),F9 (r / 4096),F9 (r / 262144),W4,Ws,Wm,Wx,W3]);simp;(try omega);done)
theorem S4 (r:Int) (es:List (List PV)) (n:Nat) (hl:es.length=n) (hn:n≤1000000000) (h1:-2147483648≤r) (h2:r≤2147483647):Det cx 225 [.own 1000 0 n,.p (.int .i32 r)] [(1000,.row 5 1 es)] (.own 900 0 (n+(utf r).length)) [(900,.row 5 1 (es ++ bstr (utf r)))]:=by
 (refine B2.of_code (X:=cx) true [(12,900),(15,900)] (by simp) Tryz.func225 (by kernel_rfl) rfl (by simp only [List.length_cons,List.length_nil,Tryz.ntmps225];decide) (by simp) ?_;refine Ax hm _ _ _ ?_;simp only [Tryz.ntmps225,Tryz.results225,Cb,Ah,Bm,Br,Cn,Ab,B3,Bd,A1,Bc,Ct,Bf,A0,Ch,Ca,E4,A9,Aj,B8,Kb,Df,F8,Cg,Bo,Bq,Au,Bt,Ar,Pr,L4,Hz,Kl,Hn,Cu,G6,Ma,Ag,Ae,A3,Cf,Bv,Th,Bz,Bx,Fb,D6,Bu,D7,Fn,Gn,Fr,Fq,Di,B6,D2,H7,Ey,Bh,Az,Ff,Fe,Hj,Fd,Eu,Fc,Ie,Ig,Fa,Ew,Ht,Ji,Il,Dg,Jg,Gp,Gr,Gs,Gu,Hu,Ho,Hc,F5,G5,E1,Gg,Kz,F2,Jk,Km,Av,Ap,Em,Al,Ls,H5,Af,C3,Gj,Mx,Fl,D8,Dr,Du,Ay,Aw,B4,C4,Fy,Ez,G7,Ga,Jq,Cl,Ki,C7,El,Cz,F1,A2,Ad,Ac,Bn,Cq,Bg,Bb,argW,List.map_cons,List.map_nil,List.length_cons,List.length_nil,List.append_nil,List.flatMap_cons,List.flatMap_nil,List.contains_cons,List.contains_nil,List.take_succ_cons,List.take_nil,List.drop_zero,decide_eq_true_eq,Nat.reduceLT,Nat.reduceLeDiff,Nat.reduceEqDiff,Nat.reduceAdd,Nat.reduceMul,true_and,and_true,Cc,Bw,↓reduceIte,reduceCtorEq,Nat.zero_add,List.cons.injEq,Bool.false_eq_true,Bool.true_and,Bool.and_true,Bool.or_false,Bool.or_true,beq_self_eq_true,Qs,Jac,Jit,Q0,Pq,Jey])
 (repeat' (first | (refine iteI (fun h=>?_) (fun h=>?_))|(refine B1 (by first | omega | (simp (disch:=omega) only [Aa,Ak,Ai] at *;omega)) ?_;intro b hb)|(refine And.intro (by first | omega | (simp (disch:=omega) only [Aa,Ak,Ai] at *;omega)) ?_)|((first | (refine Ba hm (by rfl) (by kernel_rfl) ?_)|(refine Det.use (Ob r es n hl hn (by simp only [O5] at *;omega) h1 h2) ?_)|(refine Det.useQ (Ob r es n hl hn (by simp only [O5] at *;omega) h1 h2) ?_));simp only [Cn,Ab,Bd,A1,Bc,Ct,Bf,Aj,Ik,D3,G2,Dz,Es,Hk,H6,Lo,Fm,Fh,Fs,Mg,Hs,Hl,Jz,D6,Bu,D7,Hm,Ft,Gl,Fn,Di,B6,D2,Ey,Km,Av,Ap,Em,Al,Ls,H5,Af,C3,Gj,Mx,Fl,D8,Dr,Du,Ay,Aw,A2,Ad,Ac,Cq,Bg,Bb,List.append_nil,decide_eq_true_eq,ne_eq,not_false_eq_true,Nat.reduceLT,Nat.reduceLeDiff,Nat.reduceEqDiff,↓reduceIte,and_self])|(exact True.intro)|(exfalso;omega)))
 all_goals simp only [O5] at *
 ·have e:=Vv (r:=r) (by omega)
  refine ⟨by simp,(by first | assumption | omega),by omega,by omega,by rw [Nw,e];rfl,?_⟩;rw [Oe,e];(try simp (disch:=omega) only [fd6,fd12,fd18,F9 r,F9 (r / 64),F9 (r / 4096),F9 (r / 262144),W4,Ws,Wm,Wx,W3]);simp;(try omega)
theorem Oc (r:Int) (hr:¬ (0≤r∧r<128)) (h1:-2147483648≤r) (h2:r≤2147483647):Det cx 251 [.p .snil,.p (.int .i32 r)] [] (.own 900 0 (utf r).length) [(900,.row 5 1 (bstr (utf r)))]:=by
 (refine B2.of_code (X:=cx) true [(10,900),(24,900),(49,900),(77,900)] (by simp) Tryz.func251 (by kernel_rfl) rfl (by simp only [List.length_cons,List.length_nil,Tryz.ntmps251];decide) (by simp) ?_;refine Ax hm _ _ _ ?_;simp only [Tryz.ntmps251,Tryz.results251,Cb,Ah,Bm,Br,Ce,Cn,Ab,Ea,Bd,A1,Da,Bc,D9,Ct,Bf,A0,Cw,Ca,E4,A9,Aj,B8,Kb,D0,Df,F8,Bo,Bq,C2,Dq,Db,Dn,Au,Bt,Ar,Jgw,Jg3,u_or,Dm,Pr,Je,L4,Hz,Kl,Hn,Cu,Ma,Ag,Ae,A3,D6,Bu,Fn,Di,B6,D2,Et,Ey,Ht,Ji,Il,Dg,Jg,Gp,Gr,Gs,Gu,Hu,Ho,Hc,F5,G5,E1,Rf,F2,Jk,Km,Av,Ap,Em,Ls,H5,Af,C3,Gj,Mx,Fl,D8,Dr,Du,Aw,B4,C4,Fy,Ez,Ks,Ga,C7,El,Cz,F1,A2,Ad,Ac,Bn,Cq,Bg,Bb,argW,List.map_cons,List.map_nil,List.getD_cons_zero,List.getD_cons_succ,List.length_cons,List.length_nil,List.take_succ_cons,List.take_nil,List.drop_zero,decide_eq_true_eq,Nat.reduceLT,Nat.reduceLeDiff,Nat.reduceEqDiff,Nat.reduceAdd,Nat.reduceMul,Int.reduceToNat,Int.reduceLE,true_and,and_true,Cc,↓reduceIte,reduceCtorEq,Nat.zero_add,List.cons.injEq,Bool.false_eq_true,Bool.true_and,Bool.and_true,Bool.or_false,Bool.or_true,beq_self_eq_true,Qs,Jac,Jit,Q0,Pq,Jey])
 (repeat' (first | (refine iteI (fun h=>?_) (fun h=>?_))|(refine B1 (by first | omega | (simp (disch:=omega) only [Aa,Ak,Ai] at *;omega)) ?_;intro b hb)|(refine And.intro (by first | omega | (simp (disch:=omega) only [Aa,Ak,Ai] at *;omega)) ?_)|((first | (refine Ba hm (by rfl) (by kernel_rfl) ?_));simp only [Dh])|(exact True.intro)|(exfalso;omega)))
 all_goals simp only [O5] at *
 all_goals first | (have e:=Xa (r:=r) (by omega);refine ⟨by simp,by rw [Nw,e];rfl,?_⟩;rw [Oe,e];(try simp (disch:=omega) only [fd6,fd12,fd18,F9 r,F9 (r / 64),F9 (r / 4096),F9 (r / 262144),W4,Ws,Wm,Wx,W3]);simp;(try omega);done)|(have e:=Xm (r:=r) (by omega);refine ⟨by simp,by rw [Nw,e];rfl,?_⟩;rw [Oe,e];(try simp (disch:=omega) only [fd6,fd12,fd18,F9 r,F9 (r / 64),F9 (r / 4096),F9 (r / 262144),W4,Ws,Wm,Wx,W3]);simp;(try omega);done)|(have e:=Xr (r:=r) (by omega);refine ⟨by simp,by rw [Nw,e];rfl,?_⟩;rw [Oe,e];(try simp (disch:=omega) only [fd6,fd12,fd18,F9 r,F9 (r / 64),F9 (r / 4096),F9 (r / 262144),W4,Ws,Wm,Wx,W3]);simp;(try omega);done)|(have e:=Ji0 (r:=r) (by omega);refine ⟨by simp,by rw [Nw,e];rfl,?_⟩;rw [Oe,e];(try simp (disch:=omega) only [fd6,fd12,fd18,F9 r,F9 (r / 64),F9 (r / 4096),F9 (r / 262144),W4,Ws,Wm,Wx,W3]);simp;(try omega);done)
theorem Ti (r:Int) (h1:-2147483648≤r) (h2:r≤2147483647):Det cx 225 [.p .snil,.p (.int .i32 r)] [] (.own 900 0 (utf r).length) [(900,.row 5 1 (bstr (utf r)))]:=by
 (refine B2.of_code (X:=cx) true [(12,900),(15,900)] (by simp) Tryz.func225 (by kernel_rfl) rfl (by simp only [List.length_cons,List.length_nil,Tryz.ntmps225];decide) (by simp) ?_;refine Ax hm _ _ _ ?_;simp only [Tryz.ntmps225,Tryz.results225,Cb,Ah,Bm,Br,Cn,Ab,B3,Bd,A1,Bc,Ct,Bf,A0,Ch,Ca,E4,A9,Aj,B8,Kb,Df,F8,Cg,Bo,Bq,Au,Bt,Ar,Pr,L4,Hz,Kl,Hn,Cu,Ma,Ag,Ae,A3,Cf,Bv,Th,Bz,Bx,A4,D6,Bu,Fn,Di,B6,D2,Ey,Bh,Az,A5,Ht,Ji,Il,Dg,Jg,Gp,Gr,Gs,Gu,Hu,Ho,Hc,F5,G5,E1,Rf,F2,Jk,Km,Av,Ap,Em,Ls,H5,Af,C3,Gj,Mx,Fl,D8,Dr,Du,Aw,B4,C4,Fy,Ez,Ga,Cl,C7,El,Cz,F1,A2,Ad,Ac,Bn,Cq,Bg,Bb,argW,List.map_cons,List.map_nil,List.length_cons,List.length_nil,List.append_nil,List.flatMap_cons,List.flatMap_nil,List.take_succ_cons,List.take_nil,List.drop_zero,decide_eq_true_eq,Nat.reduceLT,Nat.reduceLeDiff,Nat.reduceEqDiff,Nat.reduceMul,true_and,and_true,Cc,Bw,↓reduceIte,reduceCtorEq,Nat.zero_add,List.cons.injEq,Bool.true_and,Bool.and_true,Bool.or_true,beq_self_eq_true,Qs,Jac,Jit,Q0,Pq,Jey])
 (repeat' (first | (refine iteI (fun h=>?_) (fun h=>?_))|(refine B1 (by first | omega | (simp (disch:=omega) only [Aa,Ak,Ai] at *;omega)) ?_;intro b hb)|(refine And.intro (by first | omega | (simp (disch:=omega) only [Aa,Ak,Ai] at *;omega)) ?_)|((first | (refine Ba hm (by rfl) (by kernel_rfl) ?_)|(refine Det.use (Oc r (by simp only [O5] at *;omega) h1 h2) ?_)|(refine Det.useQ (Oc r (by simp only [O5] at *;omega) h1 h2) ?_));simp only [Cn,Ab,Bd,A1,Bc,Ct,Bf,Aj,Iw,Ik,D3,G2,Dz,Hk,H6,Lo,Fm,Hl,Jz,D6,Bu,Hm,Fn,Di,B6,D2,Ey,Km,Av,Ap,Em,Ls,H5,Af,C3,Gj,Mx,Fl,D8,Dr,Du,Aw,A2,Ad,Ac,Cq,Bg,Bb,List.append_nil,Nat.reduceLT,Nat.reduceEqDiff,↓reduceIte,and_self])|(exact True.intro)|(exfalso;omega)))
 all_goals simp only [O5] at *
 ·have e:=Vv (r:=r) (by omega)
  refine ⟨by simp,by rw [Nw,e];rfl,?_⟩;rw [Oe,e];(try simp (disch:=omega) only [fd6,fd12,fd18,F9 r,F9 (r / 64),F9 (r / 4096),F9 (r / 262144),W4,Ws,Wm,Wx,W3]);simp;(try omega)
theorem N1 (r:Int) (es:List (List PV)) (n:Nat) (hl:es.length=n) (hn:n≤1000000000) (h1:-2147483648≤r) (h2:r≤2147483647):Det cx 178 [.ptr 1000 0 0,.p (.int .i32 r)] [(500001,.row 5 1 es),(1000,.var 128 [.ptr 1000 0 0,.own 500001 0 n])] (.tup [.int .i64 (utf r).length,.nifc]) [(500001,.row 5 1 (es ++ bstr (utf r))),(1000,.var 128 [.ptr 1000 0 0,.own 500001 0 (n+(utf r).length)])]:=by
 (refine B2.of_code (X:=cx) false [(20,500001)] (by simp) Tryz.func178 (by kernel_rfl) rfl (by simp only [List.length_cons,List.length_nil,Tryz.ntmps178];decide) (by simp) ?_;refine Ax hm _ _ _ ?_;simp only [Tryz.ntmps178,Tryz.results178,Ah,Bm,Ab,Bd,A1,Bc,Bf,A0,Ch,Ca,Lf,A9,Aj,Cg,Ag,Ae,H1,Cf,Bv,Bi,Bz,Bx,Fb,D7,Gn,Fr,Fq,Eg,Di,Fi,D2,Gw,Ey,Bh,Az,Ff,Fe,Hj,Fd,Eu,Fc,H3,Ie,Ig,Fa,Ew,H2,Jq,I5,Ki,Ad,Ac,argW,List.map_cons,List.map_nil,List.length_cons,List.length_nil,List.cons_append,List.nil_append,List.append_nil,List.flatMap_cons,List.flatMap_nil,List.contains_cons,List.contains_nil,Nat.reduceLT,Nat.reduceLeDiff,Nat.reduceEqDiff,Nat.reduceAdd,Nat.reduceBEq,true_and,Cc,Bw,↓reduceIte,reduceCtorEq,Nat.zero_add,Bool.false_eq_true,Bool.true_and,Bool.or_false,beq_self_eq_true])
 (repeat' (first | (refine iteI (fun h=>?_) (fun h=>?_))|(refine B1 (by first | omega | (simp (disch:=omega) only [Aa,Ak,Ai] at *;omega)) ?_;intro b hb)|(refine And.intro (by first | omega | (simp (disch:=omega) only [Aa,Ak,Ai] at *;omega)) ?_)|((first | (refine Ba hm (by rfl) (by kernel_rfl) ?_)|(refine Det.use (Ld _ _) ?_)|(refine Det.useQ (Ld _ _) ?_)|(refine Det.use (S4 r es n hl hn h1 h2) ?_)|(refine Det.useQ (S4 r es n hl hn h1 h2) ?_));simp only [Ah,Bm,Cn,Ab,Bd,A1,Bc,C1,Ct,Bf,A0,Ch,Lf,A9,Aj,B8,Wr,Ed,Fk,C8,Dw,Cg,Bo,Bl,Au,Ar,M5,Ds,F3,C0,G3,C5,Dv,E0,Lu,M9,Iz,Fj,Ii,Ef,Ag,Ae,A3,Cf,Bv,Th,Bz,Bx,Fb,Ik,D3,Hq,Gk,G2,Dz,Es,Hk,Hp,H6,Lo,Fm,Fh,Fs,Ih,Fx,Mg,Fv,Hs,Hl,Jd,Jz,D6,Bu,Jt,D7,Iu,Ip,Hm,Ft,Gl,Fn,Gn,Fr,Fq,J5,Eg,Di,B6,Fi,D2,Et,Gw,Ey,Js1,Bh,Az,Ff,Fe,Hj,Fd,Eu,Fc,Ie,Ig,Fa,Ew,Bs,Cs,Cr,A6,A7,B9,Av,Ap,Em,Al,B7,B5,Af,C3,Gj,Fl,D8,Dr,Du,Am,Ao,Cy,Ay,Aw,Cp,Jq,Cl,Ki,A2,Ad,Ac,Cq,Bg,Bb,List.map_cons,List.map_nil,List.length_cons,List.length_nil,List.cons_append,List.nil_append,List.append_nil,List.flatMap_cons,List.flatMap_nil,List.contains_cons,List.contains_nil,List.take_succ_cons,List.take_zero,List.drop_succ_cons,List.drop_nil,List.getElem?_cons_zero,List.getElem?_cons_succ,decide_eq_true_eq,ne_eq,not_false_eq_true,Nat.reduceLT,Nat.reduceLeDiff,Nat.reduceEqDiff,Nat.reduceAdd,Nat.reduceBEq,true_and,and_true,Cc,Bw,↓reduceIte,reduceCtorEq,Nat.zero_add,PV.int.injEq,L.tup.injEq,List.cons.injEq,Bool.false_eq_true,Bool.true_and,Bool.and_true,Bool.or_false,beq_self_eq_true,Qu,Ts,Tw,Pi])|(exact True.intro)|(exfalso;omega)))
 have:=Zj r
 simp (disch:=omega) only [Aa]
 (try simp);(try omega)
theorem Se (r:Int) (h1:-2147483648≤r) (h2:r≤2147483647):Det cx 178 [.ptr 1000 0 0,.p (.int .i32 r)] [(1000,.var 128 [.p .nptr,.p .snil])] (.tup [.int .i64 (utf r).length,.nifc]) [(900,.row 5 1 (bstr (utf r))),(1000,.var 128 [.ptr 1000 0 0,.own 900 0 (utf r).length])]:=by
 (refine B2.of_code (X:=cx) false [(20,900)] (by simp) Tryz.func178 (by kernel_rfl) rfl (by simp only [List.length_cons,List.length_nil,Tryz.ntmps178];decide) (by simp) ?_;refine Ax hm _ _ _ ?_;simp only [Tryz.ntmps178,Tryz.results178,Ah,Bm,Ab,Bd,A1,Bc,Bf,A0,Ch,Ca,Lf,A9,Aj,Cg,Ag,Ae,H1,Cf,Bv,Bi,Bz,Bx,Fb,D7,Gn,Fr,Fq,Eg,B6,Fi,Gw,Bh,Az,Ff,Fe,Hj,Fd,Eu,Fc,Ie,Ig,Fa,Ew,H2,Cl,I5,Ad,Ac,argW,List.map_cons,List.map_nil,List.length_cons,List.length_nil,List.append_nil,List.flatMap_cons,List.flatMap_nil,List.contains_cons,List.contains_nil,Nat.reduceLT,Nat.reduceEqDiff,Nat.reduceAdd,Cc,Bw,↓reduceIte,reduceCtorEq,Nat.zero_add,Bool.false_eq_true,Bool.or_false,beq_self_eq_true])
 (repeat' (first | (refine iteI (fun h=>?_) (fun h=>?_))|(refine B1 (by first | omega | (simp (disch:=omega) only [Aa,Ak,Ai] at *;omega)) ?_;intro b hb)|(refine And.intro (by first | omega | (simp (disch:=omega) only [Aa,Ak,Ai] at *;omega)) ?_)|((first | (refine Ba hm (by rfl) (by kernel_rfl) ?_)|(refine Det.use (K3) ?_)|(refine Det.useQ (K3) ?_)|(refine Det.use (Ti r h1 h2) ?_)|(refine Det.useQ (Ti r h1 h2) ?_));simp only [Ah,Bm,Cn,Ab,Bd,A1,Bc,C1,Ct,Bf,A0,Ch,Lf,A9,Aj,B8,Wr,Ed,Fk,C8,Dw,Cg,Bo,Bl,Au,Ar,M5,Ds,S5,F3,C0,G3,C5,Dv,E0,Lu,M9,Iz,Fj,Ii,Ef,Ag,Ae,A3,Cf,Bv,Th,Bz,Bx,A4,Iw,Ik,Kt,D3,Hq,Gk,G2,Dz,Es,Hk,Hp,H6,Lo,Fm,Fh,Fs,Ih,Fx,Fv,Hs,Hl,Jd,Jz,D6,Bu,Jt,D7,Iu,Ip,Hm,Ft,Gl,Fn,Eg,Di,B6,Fi,D2,Et,Gw,Ey,Bh,Az,A5,Bs,Cs,Cr,A6,A7,B9,Av,Ap,Em,B7,B5,Af,C3,Gj,Fl,D8,Dr,Du,Am,Ao,Cy,Aw,Cp,Cl,A2,Ad,Ac,Cq,Bg,Bb,List.map_cons,List.map_nil,List.length_cons,List.length_nil,List.cons_append,List.nil_append,List.append_nil,List.flatMap_cons,List.flatMap_nil,List.take_succ_cons,List.take_zero,List.drop_succ_cons,List.drop_nil,List.getElem?_cons_zero,List.getElem?_cons_succ,decide_eq_true_eq,ne_eq,not_false_eq_true,Nat.reduceLT,Nat.reduceLeDiff,Nat.reduceEqDiff,Nat.reduceAdd,true_and,and_true,Cc,Bw,↓reduceIte,reduceCtorEq,Nat.zero_add,PV.int.injEq,L.tup.injEq,List.cons.injEq,Bool.true_and,Bool.and_true,Bool.or_false,Qu,Ts,Tw,Pi])|(exact True.intro)|(exfalso;omega)))
 have:=Zj r
 simp (disch:=omega) only [Aa]
 (try simp);(try omega)
theorem Po:Det cx 119 [.ptr 1000 0 0] [(1000,.var 128 [.p .nptr,.p .snil])] (.p (.str [])) [(1000,.var 128 [.p .nptr,.p .snil])]:=by
 (refine B2.of_code (X:=cx) false [] (by simp) Tryz.func119 (by kernel_rfl) rfl (by simp only [List.length_cons,List.length_nil,Tryz.ntmps119];decide) (by simp) ?_;refine Ax hm _ _ _ ?_;simp only [Tryz.ntmps119,Tryz.results119,Ah,Bm,Ab,Bd,A1,Bc,A0,F6,Aj,Ja,Ad,argW,List.map_cons,List.map_nil,Cc])
 (refine Rd 10 hm (by kernel_rfl) (by kernel_rfl) ?_;simp only [Cn,Ab,Bc,Ct,Bf,Aj,Jnh,Jn,Xl,Mq,O2,Jfx,q_usd,Bl,Je0,Jei,Ry,Ds,S5,C0,G3,C5,Dv,E0,Lu,Ag,Ae,A3,u_usd,Jff,Jdb,Bs,Cs,Cr,A6,A7,B9,Av,Ap,Em,Al,B7,B5,Af,Am,Ao,Co,Ay,Aw,Tp,Jdr,Tv,Tm,W8,A2,Ad,Ac,List.map_cons,List.map_nil,List.getElem?_cons_zero,List.getElem?_cons_succ,Nat.reduceLT,Nat.reduceEqDiff,Nat.reduceAdd,true_and,and_true,Cc,↓reduceIte,reduceCtorEq,Nat.zero_add,L.p.injEq,PV.int.injEq,Bool.true_and,Bool.and_true,and_self,Qu,Ts,Tw,Pi])
 exact ⟨_,rfl⟩
theorem Og (s:List UInt8) (n:Nat) (hn:s.length=n) (h1:n≤1000000000) (h0:n≠0):Det cx 119 [.ptr 1000 0 0] [(500001,.row 5 1 (bstr s)),(1000,.var 128 [.ptr 1000 0 0,.own 500001 0 n])] (.p (.str s)) [(1000,.var 128 [.ptr 1000 0 0,.junk])]:=by
 skip
 (refine B2.of_code (X:=cx) false [] (by simp) Tryz.func119 (by kernel_rfl) rfl (by simp only [List.length_cons,List.length_nil,Tryz.ntmps119];decide) (by simp) ?_;refine Ax hm _ _ _ ?_;simp only [Tryz.ntmps119,Tryz.results119,Ah,Bm,Ab,Bd,A1,Bc,A0,F6,Aj,Ja,Ad,argW,List.map_cons,List.map_nil,Cc])
 (refine Rd 10 hm (by kernel_rfl) (by kernel_rfl) ?_;simp only [Cn,Ab,Bc,Bf,Aj,Jnh,Jn,Xl,Mq,O2,Jfx,q_usd,Bl,Je0,Jei,Ry,Ds,F3,C0,G3,C5,Dv,E0,Lu,G6,Ag,Ae,A3,u_usd,Jdw,Jeb,u_usT,u_usB,u_usR,Bs,Cs,Cr,A6,A7,B9,Av,Ap,Em,Al,B7,B5,Af,Am,Ao,Co,Ay,Aw,B4,C4,Hy,Ez,H8,Ga,Tp,Jdr,Tv,Tm,W8,A2,Ad,Ac,Bn,Bg,Bb,List.map_cons,List.map_nil,List.getElem?_cons_zero,List.getElem?_cons_succ,ne_eq,Nat.reduceLT,Nat.reduceEqDiff,Nat.reduceAdd,true_and,and_true,Cc,↓reduceIte,reduceCtorEq,Nat.zero_add,Ai,Bool.true_and,Bool.and_true,and_self,f_c5,Qu,Ts,Tw,Pi,f_u191,Jjl])
 have h2:s≠[]:=fun h=>by subst h;exact h0 (by rw [← hn];rfl)
 simp [hn,h2];omega
end Go.LX
