/- strings.Builder, unicode/utf8.AppendRune. -/
import Derived.Test.YtmejkfclabmijaaGreatDoorLxM
set_option linter.unusedSimpArgs false
set_option linter.unusedVariables false
set_option linter.unusedSectionVars false
set_option linter.unnecessarySimpa false
set_option maxRecDepth 100000
set_option maxHeartbeats 2000000
namespace Go.LX
open Go Go.RowKit Go.Proofs
attribute [local irreducible] Al SWP Bi
theorem Jag (a:L):Ag cx 234 [a] a:=by
 intro β Im w vs hl ha
 match vs,hl with
 | [v],_ =>
  refine ⟨v,?_,ha 0 v a rfl rfl⟩
  show (callFunc 234 #[v]).run Tryz.prog w=_
  rw [run_callFunc_extern Tryz.func234 (by kernel_rfl) (by kernel_rfl) (by kernel_rfl) (e:=Extern.AbiNoEscape.same) (by kernel_rfl),Lib.run_noEscape]
  rfl
theorem f_lies:liesAt Tryz.prog Tryz.prog.depth 128 1 0 128 1=true:=by kernel_rfl
def bstr (s:List UInt8):List (List PV):=s.map fun c=>[.int .u8 c.toNat]
theorem Di (s:List UInt8):(bstr s).length=s.length:=by simp [bstr]
theorem Jhm (c:UInt8) (s:List UInt8):bstr (c :: s)=[.int .u8 c.toNat] :: bstr s:=(rfl)
theorem Gz (a b:List UInt8):bstr (a ++ b)=bstr a ++ bstr b:=by simp [bstr]
theorem X6 (a:List UInt8):∀ q∈bstr a,q.length=1:=by simp [bstr]
theorem Rz:∀ s:List UInt8,Cw (bstr s)=some s
 | []=>rfl
 | c :: s=>by
  rw [Jhm,My,Rz s]
  have:=c.toNat_lt
  simp only [Rr]
  rw [if_pos (by omega)]
  simp
theorem Ox {s:List UInt8} {C:List UInt8→Prop}:Bq (Cw (bstr s)) C=C s:=by rw [Rz,Q9]
theorem Jo4 (c:PV):(∀ q∈[[c]],q.length=1)=True:=by simp
theorem K8 (x:Int) (h0:0≤x) (h1:x<32):IntKind.u8.wrap (BitVec.ofInt (B0 .u8) 192 ||| BitVec.ofInt (B0 .u8) x).toNat=192+x:=by
 obtain ⟨n,rfl⟩:=Int.eq_ofNat_of_zero_le h0
 have:n<32:=by omega
 have key:∀ m:Fin 32,IntKind.u8.wrap (BitVec.ofInt (B0 .u8) 192 ||| BitVec.ofInt (B0 .u8) (m.val:Int)).toNat=192+(m.val:Int):=by decide
 exact key ⟨n,this⟩
theorem K5 (x:Int) (h0:0≤x) (h1:x<16):IntKind.u8.wrap (BitVec.ofInt (B0 .u8) 224 ||| BitVec.ofInt (B0 .u8) x).toNat=224+x:=by
 obtain ⟨n,rfl⟩:=Int.eq_ofNat_of_zero_le h0
 have key:∀ m:Fin 16,IntKind.u8.wrap (BitVec.ofInt (B0 .u8) 224 ||| BitVec.ofInt (B0 .u8) (m.val:Int)).toNat=224+(m.val:Int):=by decide
 exact key ⟨n,by omega⟩
theorem La (x:Int) (h0:0≤x) (h1:x<8):IntKind.u8.wrap (BitVec.ofInt (B0 .u8) 240 ||| BitVec.ofInt (B0 .u8) x).toNat=240+x:=by
 obtain ⟨n,rfl⟩:=Int.eq_ofNat_of_zero_le h0
 have key:∀ m:Fin 8,IntKind.u8.wrap (BitVec.ofInt (B0 .u8) 240 ||| BitVec.ofInt (B0 .u8) (m.val:Int)).toNat=240+(m.val:Int):=by decide
 exact key ⟨n,by omega⟩
theorem K0 (x:Int) (h0:0≤x) (h1:x<64):IntKind.u8.wrap (BitVec.ofInt (B0 .u8) 128 ||| BitVec.ofInt (B0 .u8) x).toNat=128+x:=by
 obtain ⟨n,rfl⟩:=Int.eq_ofNat_of_zero_le h0
 have key:∀ m:Fin 64,IntKind.u8.wrap (BitVec.ofInt (B0 .u8) 128 ||| BitVec.ofInt (B0 .u8) (m.val:Int)).toNat=128+(m.val:Int):=by decide
 exact key ⟨n,by omega⟩
theorem K1 (x:Int) (h0:0≤x) (h1:x<256):IntKind.u8.wrap (BitVec.ofInt (B0 .u8) x &&& BitVec.ofInt (B0 .u8) 63).toNat=x % 64:=by
 obtain ⟨n,rfl⟩:=Int.eq_ofNat_of_zero_le h0
 have key:∀ m:Fin 256,IntKind.u8.wrap (BitVec.ofInt (B0 .u8) (m.val:Int) &&& BitVec.ofInt (B0 .u8) 63).toNat=(m.val:Int) % 64:=by decide
 exact key ⟨n,by omega⟩
theorem fd6 (r:Int):r.fdiv (2 ^ min 6 (B0 .i32))=r / 64:=by
 rw [Int.fdiv_eq_ediv_of_nonneg _ (by decide)];rfl
theorem fd12 (r:Int):r.fdiv (2 ^ min 12 (B0 .i32))=r / 4096:=by
 rw [Int.fdiv_eq_ediv_of_nonneg _ (by decide)];rfl
theorem fd18 (r:Int):r.fdiv (2 ^ min 18 (B0 .i32))=r / 262144:=by
 rw [Int.fdiv_eq_ediv_of_nonneg _ (by decide)];rfl
def utfC (r:Int):List Int :=
 if 0≤r∧r<128 then [r]
 else if 0≤r∧r<2048 then [192+r / 64,128+r % 64]
 else if (0≤r∧r<55296)∨(57343<r∧r<65536) then [224+r / 4096,128+r / 64 % 64,128+r % 64]
 else if 65536≤r∧r≤1114111 then [240+r / 262144,128+r / 4096 % 64,128+r / 64 % 64,128+r % 64]
 else [239,191,189]
theorem Nb {r:Int} (h:0≤r∧r<128):utfC r=[r]:=if_pos h
theorem Oc {r:Int} (h:128≤r∧r<2048):utfC r=[192+r / 64,128+r % 64]:=by unfold utfC;rw [if_neg (by omega),if_pos (by omega)]
theorem Nd {r:Int} (h:(2048≤r∧r<55296)∨(57343<r∧r<65536)):utfC r=[224+r / 4096,128+r / 64 % 64,128+r % 64]:=by unfold utfC;rw [if_neg (by omega),if_neg (by omega),if_pos (by omega)]
theorem Nk {r:Int} (h:65536≤r∧r≤1114111):utfC r=[240+r / 262144,128+r / 4096 % 64,128+r / 64 % 64,128+r % 64]:=by unfold utfC;rw [if_neg (by omega),if_neg (by omega),if_neg (by omega),if_pos (by omega)]
theorem Wq {r:Int} (h:¬ (0≤r∧r<55296)∧¬ (57343<r∧r≤1114111)):utfC r=[239,191,189]:=by unfold utfC;rw [if_neg (by omega),if_neg (by omega),if_neg (by omega),if_neg (by omega)]
def utf (r:Int):List UInt8:=(utfC r).map u8of
theorem Jnr (r:Int):∀ c∈utfC r,0≤c∧c<256:=by
 unfold utfC
 split
 ·simp;omega
 split
 ·simp;omega
 split
 ·simp;omega
 split
 ·simp;omega
 ·simp
theorem B8 {c:Int} (h0:0≤c) (h1:c<256):((u8of c).toNat:Int)=c:=by
 unfold u8of
 simp
 omega
theorem Em (r:Int):bstr (utf r)=(utfC r).map fun c=>[PV.int .u8 c]:=by
 simp only [bstr,utf,List.map_map]
 apply List.map_congr_left
 intro c hc
 obtain ⟨h0,h1⟩:=Jnr r c hc
 simp [B8 h0 h1]
theorem D6 (r:Int):(utf r).length=(utfC r).length:=by simp [utf]
theorem Od (r:Int):(utf r).length≤4:=by
 rw [D6];unfold utfC
 repeat' split
 all_goals simp
theorem Cm:Det cx 189 [.ptr 1000 0 0] [(1000,.var 128 [.p .nptr,.p .snil])] (.tup []) [(1000,.var 128 [.ptr 1000 0 0,.p .snil])]:=by
 (refine Al.of_code (X:=cx) false [] (by simp) Tryz.func189 (by kernel_rfl) rfl (by simp only [List.length_cons,List.length_nil,Tryz.ntmps189];decide) (by simp) ?_;refine Ae hm _ _ _ ?_;simp only [Tryz.ntmps189,Tryz.results189,go_sem,Nat.reduceLT,Nat.reduceLeDiff,Nat.reduceEqDiff,Nat.reduceAdd,Nat.reduceSub,Nat.reduceMul,Nat.reduceBEq,Int.reduceToNat,Int.reduceLT,Int.reduceLE,Int.reduceEq,Int.reduceAdd,Int.reduceSub,Int.reduceNeg,↓reduceIte,reduceCtorEq])
 (repeat' (first | (refine iteI (fun h=>?_) (fun h=>?_))|(refine Ak (by first | omega | (simp (disch:=omega) only [Aa,Ab,Ac] at *;omega)) ?_;intro b hb)|(refine And.intro (by first | omega | (simp (disch:=omega) only [Aa,Ab,Ac] at *;omega)) ?_)|((first | (refine Ah hm (by rfl) (by kernel_rfl) ?_)|(refine Ag.use (Jag _) ?_));simp only [go_sem,Nat.reduceLT,Nat.reduceLeDiff,Nat.reduceEqDiff,Nat.reduceAdd,↓reduceIte,reduceCtorEq])|(exact True.intro)|(exfalso;omega)))
 exact f_lies
theorem Ct (es:List (List PV)) (n:Nat):Det cx 189 [.ptr 1000 0 0] [(500001,.row 5 1 es),(1000,.var 128 [.ptr 1000 0 0,.own 500001 0 n])] (.tup []) [(500001,.row 5 1 es),(1000,.var 128 [.ptr 1000 0 0,.own 500001 0 n])]:=by
 (refine Al.of_code (X:=cx) false [] (by simp) Tryz.func189 (by kernel_rfl) rfl (by simp only [List.length_cons,List.length_nil,Tryz.ntmps189];decide) (by simp) ?_;refine Ae hm _ _ _ ?_;simp only [Tryz.ntmps189,Tryz.results189,go_sem,Nat.reduceLT,Nat.reduceLeDiff,Nat.reduceEqDiff,Nat.reduceAdd,Nat.reduceSub,Nat.reduceMul,Nat.reduceBEq,Int.reduceToNat,Int.reduceLT,Int.reduceLE,Int.reduceEq,Int.reduceAdd,Int.reduceSub,Int.reduceNeg,↓reduceIte,reduceCtorEq])
theorem Hc (c:Int):Det cx 180 [.ptr 1000 0 0,.p (.int .u8 c)] [(1000,.var 128 [.p .nptr,.p .snil])] (.p .nifc) [(900,.row 5 1 [[.int .u8 c]]),(1000,.var 128 [.ptr 1000 0 0,.own 900 0 1])]:=by
 (refine Al.of_code (X:=cx) false [(14,900)] (by simp) Tryz.func180 (by kernel_rfl) rfl (by simp only [List.length_cons,List.length_nil,Tryz.ntmps180];decide) (by simp) ?_;refine Ae hm _ _ _ ?_;simp only [Tryz.ntmps180,Tryz.results180,go_sem,Nat.reduceLT,Nat.reduceLeDiff,Nat.reduceEqDiff,Nat.reduceAdd,Nat.reduceSub,Nat.reduceMul,Nat.reduceBEq,Int.reduceToNat,Int.reduceLT,Int.reduceLE,Int.reduceEq,Int.reduceAdd,Int.reduceSub,Int.reduceNeg,↓reduceIte,reduceCtorEq])
 (repeat' (first | (refine iteI (fun h=>?_) (fun h=>?_))|(refine Ak (by first | omega | (simp (disch:=omega) only [Aa,Ab,Ac] at *;omega)) ?_;intro b hb)|(refine And.intro (by first | omega | (simp (disch:=omega) only [Aa,Ab,Ac] at *;omega)) ?_)|((first | (refine Ah hm (by rfl) (by kernel_rfl) ?_)|(refine Det.use (Cm) ?_)|(refine Det.useQ (Cm) ?_));simp only [go_sem,Nat.reduceLT,Nat.reduceLeDiff,Nat.reduceEqDiff,Nat.reduceAdd,Nat.reduceMul,↓reduceIte,reduceCtorEq])|(exact True.intro)|(exfalso;omega)))
 simp
theorem Eb (c:Int) (es:List (List PV)) (n:Nat) (h:es.length=n) (hn:n≤1000000000):Det cx 180 [.ptr 1000 0 0,.p (.int .u8 c)] [(500001,.row 5 1 es),(1000,.var 128 [.ptr 1000 0 0,.own 500001 0 n])] (.p .nifc) [(500001,.row 5 1 (es ++ [[.int .u8 c]])),(1000,.var 128 [.ptr 1000 0 0,.own 500001 0 (n+1)])]:=by
 (refine Al.of_code (X:=cx) false [(14,500001)] (by simp) Tryz.func180 (by kernel_rfl) rfl (by simp only [List.length_cons,List.length_nil,Tryz.ntmps180];decide) (by simp) ?_;refine Ae hm _ _ _ ?_;simp only [Tryz.ntmps180,Tryz.results180,go_sem,Nat.reduceLT,Nat.reduceLeDiff,Nat.reduceEqDiff,Nat.reduceAdd,Nat.reduceSub,Nat.reduceMul,Nat.reduceBEq,Int.reduceToNat,Int.reduceLT,Int.reduceLE,Int.reduceEq,Int.reduceAdd,Int.reduceSub,Int.reduceNeg,↓reduceIte,reduceCtorEq])
 (repeat' (first | (refine iteI (fun h=>?_) (fun h=>?_))|(refine Ak (by first | omega | (simp (disch:=omega) only [Aa,Ab,Ac] at *;omega)) ?_;intro b hb)|(refine And.intro (by first | omega | (simp (disch:=omega) only [Aa,Ab,Ac] at *;omega)) ?_)|((first | (refine Ah hm (by rfl) (by kernel_rfl) ?_)|(refine Det.use (Ct _ _) ?_)|(refine Det.useQ (Ct _ _) ?_));simp only [go_sem,Nat.reduceLT,Nat.reduceLeDiff,Nat.reduceEqDiff,Nat.reduceAdd,Nat.reduceMul,↓reduceIte,reduceCtorEq])|(exact True.intro)|(exfalso;omega)))
 simp;omega
theorem Bx (s:List UInt8) (es:List (List PV)) (n:Nat) (h:es.length=n) (hn:n≤1000000000) (hs:s.length≤1000000000):Det cx 118 [.ptr 1000 0 0,.p (.str s)] [(500001,.row 5 1 es),(1000,.var 128 [.ptr 1000 0 0,.own 500001 0 n])] (.tup [.int .i64 s.length,.nifc]) [(500001,.row 5 1 (es ++ bstr s)),(1000,.var 128 [.ptr 1000 0 0,.own 500001 0 (n+s.length)])]:=by
 (refine Al.of_code (X:=cx) false [(14,500001)] (by simp) Tryz.func118 (by kernel_rfl) rfl (by simp only [List.length_cons,List.length_nil,Tryz.ntmps118];decide) (by simp) ?_;refine Ae hm _ _ _ ?_;simp only [Tryz.ntmps118,Tryz.results118,go_sem,Nat.reduceLT,Nat.reduceLeDiff,Nat.reduceEqDiff,Nat.reduceAdd,Nat.reduceSub,Nat.reduceMul,Nat.reduceBEq,Int.reduceToNat,Int.reduceLT,Int.reduceLE,Int.reduceEq,Int.reduceAdd,Int.reduceSub,Int.reduceNeg,↓reduceIte,reduceCtorEq])
 (repeat' (first | (refine iteI (fun h=>?_) (fun h=>?_))|(refine Ak (by first | omega | (simp (disch:=omega) only [Aa,Ab,Ac] at *;omega)) ?_;intro b hb)|(refine And.intro (by first | omega | (simp (disch:=omega) only [Aa,Ab,Ac] at *;omega)) ?_)|((first | (refine Ah hm (by rfl) (by kernel_rfl) ?_)|(refine Det.use (Ct _ _) ?_)|(refine Det.useQ (Ct _ _) ?_));simp only [go_sem,Nat.reduceLT,Nat.reduceLeDiff,Nat.reduceEqDiff,Nat.reduceAdd,↓reduceIte,reduceCtorEq])|(exact True.intro)|(exfalso;omega)))
 exact ⟨X6 s,h,by omega,by omega,rfl⟩
theorem En (r:Int) (es:List (List PV)) (n:Nat) (hl:es.length=n) (hn:n≤1000000000) (hr:¬ (0≤r∧r<128)) (h1:-2147483648≤r) (h2:r≤2147483647):Det cx 251 [.own 1000 0 n,.p (.int .i32 r)] [(1000,.row 5 1 es)] (.own 900 0 (n+(utf r).length)) [(900,.row 5 1 (es ++ bstr (utf r)))]:=by
 (refine Al.of_code (X:=cx) true [(10,900),(24,900),(49,900),(77,900)] (by simp) Tryz.func251 (by kernel_rfl) rfl (by simp only [List.length_cons,List.length_nil,Tryz.ntmps251];decide) (by simp) ?_;refine Ae hm _ _ _ ?_;simp only [Tryz.ntmps251,Tryz.results251,go_sem,Nat.reduceLT,Nat.reduceLeDiff,Nat.reduceEqDiff,Nat.reduceAdd,Nat.reduceSub,Nat.reduceMul,Nat.reduceBEq,Int.reduceToNat,Int.reduceLT,Int.reduceLE,Int.reduceEq,Int.reduceAdd,Int.reduceSub,Int.reduceNeg,↓reduceIte,reduceCtorEq])
 (repeat' (first | (refine iteI (fun h=>?_) (fun h=>?_))|(refine Ak (by first | omega | (simp (disch:=omega) only [Aa,Ab,Ac] at *;omega)) ?_;intro b hb)|(refine And.intro (by first | omega | (simp (disch:=omega) only [Aa,Ab,Ac] at *;omega)) ?_)|((first | (refine Ah hm (by rfl) (by kernel_rfl) ?_));simp only [go_sem])|(exact True.intro)|(exfalso;omega)))
 all_goals simp only [Ec] at *
 all_goals first | (have e:=Oc (r:=r) (by omega);refine ⟨by simp,(by first | assumption | omega),by omega,by omega,by rw [D6,e];rfl,?_⟩;rw [Em,e];(try simp (disch:=omega) only [fd6,fd12,fd18,Be r,Be (r / 64),Be (r / 4096),Be (r / 262144),K1,K8,K0,K5,La]);simp;(try omega);done)|(have e:=Nd (r:=r) (by omega);refine ⟨by simp,(by first | assumption | omega),by omega,by omega,by rw [D6,e];rfl,?_⟩;rw [Em,e];(try simp (disch:=omega) only [fd6,fd12,fd18,Be r,Be (r / 64),Be (r / 4096),Be (r / 262144),K1,K8,K0,K5,La]);simp;(try omega);done)|(have e:=Nk (r:=r) (by omega);refine ⟨by simp,(by first | assumption | omega),by omega,by omega,by rw [D6,e];rfl,?_⟩;rw [Em,e];(try simp (disch:=omega) only [fd6,fd12,fd18,Be r,Be (r / 64),Be (r / 4096),Be (r / 262144),K1,K8,K0,K5,La]);simp;(try omega);done)|(have e:=Wq (r:=r) (by omega);refine ⟨by simp,(by first | assumption | omega),by omega,by omega,by rw [D6,e];rfl,?_⟩;rw [Em,e];(try simp (disch:=omega) only [fd6,fd12,fd18,Be r,Be (r / 64),Be (r / 4096),Be (r / 262144),K1,K8,K0,K5,La]);simp;(try omega);done)
theorem H7 (r:Int) (es:List (List PV)) (n:Nat) (hl:es.length=n) (hn:n≤1000000000) (h1:-2147483648≤r) (h2:r≤2147483647):Det cx 225 [.own 1000 0 n,.p (.int .i32 r)] [(1000,.row 5 1 es)] (.own 900 0 (n+(utf r).length)) [(900,.row 5 1 (es ++ bstr (utf r)))]:=by
 (refine Al.of_code (X:=cx) true [(12,900),(15,900)] (by simp) Tryz.func225 (by kernel_rfl) rfl (by simp only [List.length_cons,List.length_nil,Tryz.ntmps225];decide) (by simp) ?_;refine Ae hm _ _ _ ?_;simp only [Tryz.ntmps225,Tryz.results225,go_sem,Nat.reduceLT,Nat.reduceLeDiff,Nat.reduceEqDiff,Nat.reduceAdd,Nat.reduceSub,Nat.reduceMul,Nat.reduceBEq,Int.reduceToNat,Int.reduceLT,Int.reduceLE,Int.reduceEq,Int.reduceAdd,Int.reduceSub,Int.reduceNeg,↓reduceIte,reduceCtorEq])
 (repeat' (first | (refine iteI (fun h=>?_) (fun h=>?_))|(refine Ak (by first | omega | (simp (disch:=omega) only [Aa,Ab,Ac] at *;omega)) ?_;intro b hb)|(refine And.intro (by first | omega | (simp (disch:=omega) only [Aa,Ab,Ac] at *;omega)) ?_)|((first | (refine Ah hm (by rfl) (by kernel_rfl) ?_)|(refine Det.use (En r es n hl hn (by simp only [Ec] at *;omega) h1 h2) ?_)|(refine Det.useQ (En r es n hl hn (by simp only [Ec] at *;omega) h1 h2) ?_));simp only [go_sem,Nat.reduceLT,Nat.reduceLeDiff,Nat.reduceEqDiff,↓reduceIte])|(exact True.intro)|(exfalso;omega)))
 all_goals simp only [Ec] at *
 ·have e:=Nb (r:=r) (by omega)
  refine ⟨by simp,(by first | assumption | omega),by omega,by omega,by rw [D6,e];rfl,?_⟩;rw [Em,e];(try simp (disch:=omega) only [fd6,fd12,fd18,Be r,Be (r / 64),Be (r / 4096),Be (r / 262144),K1,K8,K0,K5,La]);simp;(try omega)
theorem Ej (r:Int) (hr:¬ (0≤r∧r<128)) (h1:-2147483648≤r) (h2:r≤2147483647):Det cx 251 [.p .snil,.p (.int .i32 r)] [] (.own 900 0 (utf r).length) [(900,.row 5 1 (bstr (utf r)))]:=by
 (refine Al.of_code (X:=cx) true [(10,900),(24,900),(49,900),(77,900)] (by simp) Tryz.func251 (by kernel_rfl) rfl (by simp only [List.length_cons,List.length_nil,Tryz.ntmps251];decide) (by simp) ?_;refine Ae hm _ _ _ ?_;simp only [Tryz.ntmps251,Tryz.results251,go_sem,Nat.reduceLT,Nat.reduceLeDiff,Nat.reduceEqDiff,Nat.reduceAdd,Nat.reduceSub,Nat.reduceMul,Nat.reduceBEq,Int.reduceToNat,Int.reduceLT,Int.reduceLE,Int.reduceEq,Int.reduceAdd,Int.reduceSub,Int.reduceNeg,↓reduceIte,reduceCtorEq])
 (repeat' (first | (refine iteI (fun h=>?_) (fun h=>?_))|(refine Ak (by first | omega | (simp (disch:=omega) only [Aa,Ab,Ac] at *;omega)) ?_;intro b hb)|(refine And.intro (by first | omega | (simp (disch:=omega) only [Aa,Ab,Ac] at *;omega)) ?_)|((first | (refine Ah hm (by rfl) (by kernel_rfl) ?_));simp only [go_sem])|(exact True.intro)|(exfalso;omega)))
 all_goals simp only [Ec] at *
 all_goals first | (have e:=Oc (r:=r) (by omega);refine ⟨by simp,by rw [D6,e];rfl,?_⟩;rw [Em,e];(try simp (disch:=omega) only [fd6,fd12,fd18,Be r,Be (r / 64),Be (r / 4096),Be (r / 262144),K1,K8,K0,K5,La]);simp;(try omega);done)|(have e:=Nd (r:=r) (by omega);refine ⟨by simp,by rw [D6,e];rfl,?_⟩;rw [Em,e];(try simp (disch:=omega) only [fd6,fd12,fd18,Be r,Be (r / 64),Be (r / 4096),Be (r / 262144),K1,K8,K0,K5,La]);simp;(try omega);done)|(have e:=Nk (r:=r) (by omega);refine ⟨by simp,by rw [D6,e];rfl,?_⟩;rw [Em,e];(try simp (disch:=omega) only [fd6,fd12,fd18,Be r,Be (r / 64),Be (r / 4096),Be (r / 262144),K1,K8,K0,K5,La]);simp;(try omega);done)|(have e:=Wq (r:=r) (by omega);refine ⟨by simp,by rw [D6,e];rfl,?_⟩;rw [Em,e];(try simp (disch:=omega) only [fd6,fd12,fd18,Be r,Be (r / 64),Be (r / 4096),Be (r / 262144),K1,K8,K0,K5,La]);simp;(try omega);done)
theorem H1 (r:Int) (h1:-2147483648≤r) (h2:r≤2147483647):Det cx 225 [.p .snil,.p (.int .i32 r)] [] (.own 900 0 (utf r).length) [(900,.row 5 1 (bstr (utf r)))]:=by
 (refine Al.of_code (X:=cx) true [(12,900),(15,900)] (by simp) Tryz.func225 (by kernel_rfl) rfl (by simp only [List.length_cons,List.length_nil,Tryz.ntmps225];decide) (by simp) ?_;refine Ae hm _ _ _ ?_;simp only [Tryz.ntmps225,Tryz.results225,go_sem,Nat.reduceLT,Nat.reduceLeDiff,Nat.reduceEqDiff,Nat.reduceAdd,Nat.reduceSub,Nat.reduceMul,Nat.reduceBEq,Int.reduceToNat,Int.reduceLT,Int.reduceLE,Int.reduceEq,Int.reduceAdd,Int.reduceSub,Int.reduceNeg,↓reduceIte,reduceCtorEq])
 (repeat' (first | (refine iteI (fun h=>?_) (fun h=>?_))|(refine Ak (by first | omega | (simp (disch:=omega) only [Aa,Ab,Ac] at *;omega)) ?_;intro b hb)|(refine And.intro (by first | omega | (simp (disch:=omega) only [Aa,Ab,Ac] at *;omega)) ?_)|((first | (refine Ah hm (by rfl) (by kernel_rfl) ?_)|(refine Det.use (Ej r (by simp only [Ec] at *;omega) h1 h2) ?_)|(refine Det.useQ (Ej r (by simp only [Ec] at *;omega) h1 h2) ?_));simp only [go_sem,Nat.reduceLT,Nat.reduceEqDiff,↓reduceIte])|(exact True.intro)|(exfalso;omega)))
 all_goals simp only [Ec] at *
 ·have e:=Nb (r:=r) (by omega)
  refine ⟨by simp,by rw [D6,e];rfl,?_⟩;rw [Em,e];(try simp (disch:=omega) only [fd6,fd12,fd18,Be r,Be (r / 64),Be (r / 4096),Be (r / 262144),K1,K8,K0,K5,La]);simp;(try omega)
theorem Ed (r:Int) (es:List (List PV)) (n:Nat) (hl:es.length=n) (hn:n≤1000000000) (h1:-2147483648≤r) (h2:r≤2147483647):Det cx 178 [.ptr 1000 0 0,.p (.int .i32 r)] [(500001,.row 5 1 es),(1000,.var 128 [.ptr 1000 0 0,.own 500001 0 n])] (.tup [.int .i64 (utf r).length,.nifc]) [(500001,.row 5 1 (es ++ bstr (utf r))),(1000,.var 128 [.ptr 1000 0 0,.own 500001 0 (n+(utf r).length)])]:=by
 (refine Al.of_code (X:=cx) false [(20,500001)] (by simp) Tryz.func178 (by kernel_rfl) rfl (by simp only [List.length_cons,List.length_nil,Tryz.ntmps178];decide) (by simp) ?_;refine Ae hm _ _ _ ?_;simp only [Tryz.ntmps178,Tryz.results178,go_sem,Nat.reduceLT,Nat.reduceLeDiff,Nat.reduceEqDiff,Nat.reduceAdd,Nat.reduceSub,Nat.reduceMul,Nat.reduceBEq,Int.reduceToNat,Int.reduceLT,Int.reduceLE,Int.reduceEq,Int.reduceAdd,Int.reduceSub,Int.reduceNeg,↓reduceIte,reduceCtorEq])
 (repeat' (first | (refine iteI (fun h=>?_) (fun h=>?_))|(refine Ak (by first | omega | (simp (disch:=omega) only [Aa,Ab,Ac] at *;omega)) ?_;intro b hb)|(refine And.intro (by first | omega | (simp (disch:=omega) only [Aa,Ab,Ac] at *;omega)) ?_)|((first | (refine Ah hm (by rfl) (by kernel_rfl) ?_)|(refine Det.use (Ct _ _) ?_)|(refine Det.useQ (Ct _ _) ?_)|(refine Det.use (H7 r es n hl hn h1 h2) ?_)|(refine Det.useQ (H7 r es n hl hn h1 h2) ?_));simp only [go_sem,Nat.reduceLT,Nat.reduceLeDiff,Nat.reduceEqDiff,Nat.reduceAdd,Nat.reduceBEq,↓reduceIte,reduceCtorEq])|(exact True.intro)|(exfalso;omega)))
 have:=Od r
 simp (disch:=omega) only [Aa]
 (try simp);(try omega)
theorem Hb (r:Int) (h1:-2147483648≤r) (h2:r≤2147483647):Det cx 178 [.ptr 1000 0 0,.p (.int .i32 r)] [(1000,.var 128 [.p .nptr,.p .snil])] (.tup [.int .i64 (utf r).length,.nifc]) [(900,.row 5 1 (bstr (utf r))),(1000,.var 128 [.ptr 1000 0 0,.own 900 0 (utf r).length])]:=by
 (refine Al.of_code (X:=cx) false [(20,900)] (by simp) Tryz.func178 (by kernel_rfl) rfl (by simp only [List.length_cons,List.length_nil,Tryz.ntmps178];decide) (by simp) ?_;refine Ae hm _ _ _ ?_;simp only [Tryz.ntmps178,Tryz.results178,go_sem,Nat.reduceLT,Nat.reduceLeDiff,Nat.reduceEqDiff,Nat.reduceAdd,Nat.reduceSub,Nat.reduceMul,Nat.reduceBEq,Int.reduceToNat,Int.reduceLT,Int.reduceLE,Int.reduceEq,Int.reduceAdd,Int.reduceSub,Int.reduceNeg,↓reduceIte,reduceCtorEq])
 (repeat' (first | (refine iteI (fun h=>?_) (fun h=>?_))|(refine Ak (by first | omega | (simp (disch:=omega) only [Aa,Ab,Ac] at *;omega)) ?_;intro b hb)|(refine And.intro (by first | omega | (simp (disch:=omega) only [Aa,Ab,Ac] at *;omega)) ?_)|((first | (refine Ah hm (by rfl) (by kernel_rfl) ?_)|(refine Det.use (Cm) ?_)|(refine Det.useQ (Cm) ?_)|(refine Det.use (H1 r h1 h2) ?_)|(refine Det.useQ (H1 r h1 h2) ?_));simp only [go_sem,Nat.reduceLT,Nat.reduceLeDiff,Nat.reduceEqDiff,Nat.reduceAdd,↓reduceIte,reduceCtorEq])|(exact True.intro)|(exfalso;omega)))
 have:=Od r
 simp (disch:=omega) only [Aa]
 (try simp);(try omega)
theorem Fa:Det cx 119 [.ptr 1000 0 0] [(1000,.var 128 [.p .nptr,.p .snil])] (.p (.str [])) [(1000,.var 128 [.p .nptr,.p .snil])]:=by
 (refine Al.of_code (X:=cx) false [] (by simp) Tryz.func119 (by kernel_rfl) rfl (by simp only [List.length_cons,List.length_nil,Tryz.ntmps119];decide) (by simp) ?_;refine Ae hm _ _ _ ?_;simp only [Tryz.ntmps119,Tryz.results119,go_sem,Nat.reduceLT,Nat.reduceLeDiff,Nat.reduceEqDiff,Nat.reduceAdd,Nat.reduceSub,Nat.reduceMul,Nat.reduceBEq,Int.reduceToNat,Int.reduceLT,Int.reduceLE,Int.reduceEq,Int.reduceAdd,Int.reduceSub,Int.reduceNeg,↓reduceIte,reduceCtorEq])
 (refine Gi 10 hm (by kernel_rfl) (by kernel_rfl) ?_;simp only [go_sem,Nat.reduceLT,Nat.reduceEqDiff,Nat.reduceAdd,↓reduceIte,reduceCtorEq])
 exact ⟨_,rfl⟩
theorem Eo (s:List UInt8) (n:Nat) (hn:s.length=n) (h1:n≤1000000000) (h0:n≠0):Det cx 119 [.ptr 1000 0 0] [(500001,.row 5 1 (bstr s)),(1000,.var 128 [.ptr 1000 0 0,.own 500001 0 n])] (.p (.str s)) [(1000,.var 128 [.ptr 1000 0 0,.junk])]:=by
 skip
 (refine Al.of_code (X:=cx) false [] (by simp) Tryz.func119 (by kernel_rfl) rfl (by simp only [List.length_cons,List.length_nil,Tryz.ntmps119];decide) (by simp) ?_;refine Ae hm _ _ _ ?_;simp only [Tryz.ntmps119,Tryz.results119,go_sem,Nat.reduceLT,Nat.reduceLeDiff,Nat.reduceEqDiff,Nat.reduceAdd,Nat.reduceSub,Nat.reduceMul,Nat.reduceBEq,Int.reduceToNat,Int.reduceLT,Int.reduceLE,Int.reduceEq,Int.reduceAdd,Int.reduceSub,Int.reduceNeg,↓reduceIte,reduceCtorEq,Ox])
 (refine Gi 10 hm (by kernel_rfl) (by kernel_rfl) ?_;simp only [go_sem,Nat.reduceLT,Nat.reduceEqDiff,Nat.reduceAdd,↓reduceIte,reduceCtorEq,Ox])
 have h2:s≠[]:=fun h=>by subst h;exact h0 (by rw [← hn];rfl)
 simp [hn,h2];omega
end Go.LX
