/- strings.Builder, unicode/utf8.AppendRune. -/
import Derived.Test.YtpaiiekgdgjjnaaGreatDoorLxM
import Derived.Test.YtpaiiekgdgjjnaaGreatDoorLxK
import Derived.Test.YtpaiiekgdgjjnaaGreatDoorLxJ
set_option linter.unusedSimpArgs false
set_option linter.unusedVariables false
set_option linter.unusedSectionVars false
set_option linter.unnecessarySimpa false
set_option maxRecDepth 100000
set_option maxHeartbeats 2000000
namespace Go.LX
open Go Go.RowKit Go.Proofs
attribute [local irreducible] Al SWP Bi
theorem Jag (a:L):Ag cx 324 [a] a:=by
 intro β Im w vs hl ha
 match vs,hl with
 | [v],_ =>
  refine ⟨v,?_,ha 0 v a rfl rfl⟩;show (callFunc 324 #[v]).run Tryz.prog w=_;rw [run_callFunc_extern Tryz.func324 krf krf krf (e:=Extern.AbiNoEscape.same) krf,Lib.run_noEscape];rfl
theorem f_lies:liesAt Tryz.prog Tryz.prog.depth 221 1 0 221 1=true:=krf
def bstr (s:List UInt8):List (List PV):=s.map fun c=>[.int .u8 c.toNat]
theorem Di (s:List UInt8):(bstr s).length=s.length:=by simp [bstr]
theorem Jhm (c:UInt8) (s:List UInt8):bstr (c :: s)=[.int .u8 c.toNat] :: bstr s:=(rfl)
theorem Gz (a b:List UInt8):bstr (a ++ b)=bstr a ++ bstr b:=by simp [bstr]
theorem X6 (a:List UInt8):∀ q∈bstr a,q.length=1:=by simp [bstr]
theorem Rz:∀ s:List UInt8,Cw (bstr s)=some s
 | []=>rfl
 | c :: s=>by
  rw [Jhm,My,Rz s];have:=c.toNat_lt;simp only [Rr];rw [if_pos omg];simp
theorem Ox {s:List UInt8} {C:List UInt8→Prop}:Bq (Cw (bstr s)) C=C s:=by rw [Rz,Q9]
theorem Jo4 (c:PV):(∀ q∈[[c]],q.length=1)=True:=by simp
theorem K8 (x:Int) (h0:0≤x) (h1:x<32):IntKind.u8.wrap (BitVec.ofInt (B0 .u8) 192 ||| BitVec.ofInt (B0 .u8) x).toNat=192+x:=by
 obtain ⟨n,rfl⟩:=Int.eq_ofNat_of_zero_le h0;have:n<32:=by omega
 have key:∀ m:Fin 32,IntKind.u8.wrap (BitVec.ofInt (B0 .u8) 192 ||| BitVec.ofInt (B0 .u8) (m.val:Int)).toNat=192+(m.val:Int):=by decide
 exact key ⟨n,this⟩
theorem K5 (x:Int) (h0:0≤x) (h1:x<16):IntKind.u8.wrap (BitVec.ofInt (B0 .u8) 224 ||| BitVec.ofInt (B0 .u8) x).toNat=224+x:=by
 obtain ⟨n,rfl⟩:=Int.eq_ofNat_of_zero_le h0;have key:∀ m:Fin 16,IntKind.u8.wrap (BitVec.ofInt (B0 .u8) 224 ||| BitVec.ofInt (B0 .u8) (m.val:Int)).toNat=224+(m.val:Int):=by decide
 exact key ⟨n,by omega⟩
theorem La (x:Int) (h0:0≤x) (h1:x<8):IntKind.u8.wrap (BitVec.ofInt (B0 .u8) 240 ||| BitVec.ofInt (B0 .u8) x).toNat=240+x:=by
 obtain ⟨n,rfl⟩:=Int.eq_ofNat_of_zero_le h0;have key:∀ m:Fin 8,IntKind.u8.wrap (BitVec.ofInt (B0 .u8) 240 ||| BitVec.ofInt (B0 .u8) (m.val:Int)).toNat=240+(m.val:Int):=by decide
 exact key ⟨n,by omega⟩
theorem K0 (x:Int) (h0:0≤x) (h1:x<64):IntKind.u8.wrap (BitVec.ofInt (B0 .u8) 128 ||| BitVec.ofInt (B0 .u8) x).toNat=128+x:=by
 obtain ⟨n,rfl⟩:=Int.eq_ofNat_of_zero_le h0;have key:∀ m:Fin 64,IntKind.u8.wrap (BitVec.ofInt (B0 .u8) 128 ||| BitVec.ofInt (B0 .u8) (m.val:Int)).toNat=128+(m.val:Int):=by decide
 exact key ⟨n,by omega⟩
theorem K1 (x:Int) (h0:0≤x) (h1:x<256):IntKind.u8.wrap (BitVec.ofInt (B0 .u8) x &&& BitVec.ofInt (B0 .u8) 63).toNat=x % 64:=by
 obtain ⟨n,rfl⟩:=Int.eq_ofNat_of_zero_le h0;have key:∀ m:Fin 256,IntKind.u8.wrap (BitVec.ofInt (B0 .u8) (m.val:Int) &&& BitVec.ofInt (B0 .u8) 63).toNat=(m.val:Int) % 64:=by decide
 exact key ⟨n,by omega⟩
theorem fd6 (r:Int):r.fdiv (2 ^ min 6 (B0 .i32))=r / 64:=by
 rw [Int.fdiv_eq_ediv_of_nonneg _ de];rfl
theorem fd12 (r:Int):r.fdiv (2 ^ min 12 (B0 .i32))=r / 4096:=by
 rw [Int.fdiv_eq_ediv_of_nonneg _ de];rfl
theorem fd18 (r:Int):r.fdiv (2 ^ min 18 (B0 .i32))=r / 262144:=by
 rw [Int.fdiv_eq_ediv_of_nonneg _ de];rfl
def utfC (r:Int):List Int :=
 if 0≤r∧r<128 then [r]
 else if 0≤r∧r<2048 then [192+r / 64,128+r % 64]
 else if (0≤r∧r<55296)∨(57343<r∧r<65536) then [224+r / 4096,128+r / 64 % 64,128+r % 64]
 else if 65536≤r∧r≤1114111 then [240+r / 262144,128+r / 4096 % 64,128+r / 64 % 64,128+r % 64]
 else [239,191,189]
theorem Nb {r:Int} (h:0≤r∧r<128):utfC r=[r]:=if_pos h
theorem Oc {r:Int} (h:128≤r∧r<2048):utfC r=[192+r / 64,128+r % 64]:=by unfold utfC;rw [if_neg omg,if_pos omg]
theorem Nd {r:Int} (h:(2048≤r∧r<55296)∨(57343<r∧r<65536)):utfC r=[224+r / 4096,128+r / 64 % 64,128+r % 64]:=by unfold utfC;rw [if_neg omg,if_neg omg,if_pos omg]
theorem Nk {r:Int} (h:65536≤r∧r≤1114111):utfC r=[240+r / 262144,128+r / 4096 % 64,128+r / 64 % 64,128+r % 64]:=by unfold utfC;rw [if_neg omg,if_neg omg,if_neg omg,if_pos omg]
theorem Wq {r:Int} (h:¬ (0≤r∧r<55296)∧¬ (57343<r∧r≤1114111)):utfC r=[239,191,189]:=by unfold utfC;rw [if_neg omg,if_neg omg,if_neg omg,if_neg omg]
def utf (r:Int):List UInt8:=(utfC r).map u8of
theorem Jnr (r:Int):∀ c∈utfC r,0≤c∧c<256:=by
 unfold utfC;split
 ·simp;omega
 split
 ·simp;omega
 split
 ·simp;omega
 split
 ·simp;omega
 ·simp
theorem B8 {c:Int} (h0:0≤c) (h1:c<256):((u8of c).toNat:Int)=c:=by
 unfold u8of;simp;omega
theorem Em (r:Int):bstr (utf r)=(utfC r).map fun c=>[PV.int .u8 c]:=by
 simp only [bstr,utf,List.map_map];apply List.map_congr_left;intro c hc;obtain ⟨h0,h1⟩:=Jnr r c hc;simp [B8 h0 h1]
theorem D6 (r:Int):(utf r).length=(utfC r).length:=by simp [utf]
theorem Od (r:Int):(utf r).length≤4:=by
 rw [D6];unfold utfC
 repeat' split
 all_goals simp
theorem Cm:Det cx 293 [.ptr 1000 0 0] [(1000,.var 221 [.p .nptr,.p .snil])] (.tup []) [(1000,.var 221 [.ptr 1000 0 0,.p .snil])]:=by
 (refine bgo Tryz.func293 ?_;simp only [go_sem,simprocAttr]);(repeat' (first | ((refine J3x (Jag _) ?_);simp only [go_sem,simprocAttr]) | fail));exact f_lies
theorem Ct (es:List (List PV)) (n:Nat):Det cx 293 [.ptr 1000 0 0] [(500001,.row 5 1 es),(1000,.var 221 [.ptr 1000 0 0,.own 500001 0 n])] (.tup []) [(500001,.row 5 1 es),(1000,.var 221 [.ptr 1000 0 0,.own 500001 0 n])]:=by
 (refine bgo Tryz.func293 ?_;simp only [go_sem,simprocAttr])
theorem Hc (c:Int):Det cx 258 [.ptr 1000 0 0,.p (.int .u8 c)] [(1000,.var 221 [.p .nptr,.p .snil])] (.p .nifc) [(900,.row 5 1 [[.int .u8 c]]),(1000,.var 221 [.ptr 1000 0 0,.own 900 0 1])]:=by
 (refine bgoR false [(14,900)] Tryz.func258 ?_;simp only [go_sem,simprocAttr]);(repeat' (first | ((refine Jqa (Cm) ?_);simp only [go_sem,simprocAttr]) | fail));simp
theorem Eb (c:Int) (es:List (List PV)) (n:Nat) (h:es.length=n) (hn:n≤1000000000):Det cx 258 [.ptr 1000 0 0,.p (.int .u8 c)] [(500001,.row 5 1 es),(1000,.var 221 [.ptr 1000 0 0,.own 500001 0 n])] (.p .nifc) [(500001,.row 5 1 (es ++ [[.int .u8 c]])),(1000,.var 221 [.ptr 1000 0 0,.own 500001 0 (n+1)])]:=by
 (refine bgoR false [(14,500001)] Tryz.func258 ?_;simp only [go_sem,simprocAttr]);(repeat' (first | ((refine Jqa (Ct _ _) ?_);simp only [go_sem,simprocAttr]) | fail));simp;omega
theorem Bx (s:List UInt8) (es:List (List PV)) (n:Nat) (h:es.length=n) (hn:n≤1000000000) (hs:s.length≤1000000000):Det cx 259 [.ptr 1000 0 0,.p (.str s)] [(500001,.row 5 1 es),(1000,.var 221 [.ptr 1000 0 0,.own 500001 0 n])] (.tup [.int .i64 s.length,.nifc]) [(500001,.row 5 1 (es ++ bstr s)),(1000,.var 221 [.ptr 1000 0 0,.own 500001 0 (n+s.length)])]:=by
 (refine bgoR false [(14,500001)] Tryz.func259 ?_;simp only [go_sem,simprocAttr]);(repeat' (first | ((refine Jqa (Ct _ _) ?_);simp only [go_sem,simprocAttr]) | fail));exact ⟨X6 s,h,by omega,by omega,rfl⟩
theorem En (r:Int) (es:List (List PV)) (n:Nat) (hl:es.length=n) (hn:n≤1000000000) (hr:¬ (0≤r∧r<128)) (h1:-2147483648≤r) (h2:r≤2147483647):Det cx 325 [.own 1000 0 n,.p (.int .i32 r)] [(1000,.row 5 1 es)] (.own 900 0 (n+(utf r).length)) [(900,.row 5 1 (es ++ bstr (utf r)))]:=by
 (refine bgoR true [(10,900),(24,900),(49,900),(77,900)] Tryz.func325 ?_;simp only [go_sem,simprocAttr]);(repeat' (first | (apply iteI <;> intro h)|(refine Jqe ?_)|(exfalso;omega)))
 all_goals simp only [Ec] at *
 all_goals first | (have e:=Oc (r:=r) omg;refine ⟨by simp,(by first | assumption | omega),by omega,by omega,by rw [D6,e];rfl,?_⟩;rw [Em,e];(try simp (disch:=omega) only [fd6,fd12,fd18,Be r,Be (r / 64),Be (r / 4096),Be (r / 262144),K1,K8,K0,K5,La]);simp;(try omega);done)|(have e:=Nd (r:=r) omg;refine ⟨by simp,(by first | assumption | omega),by omega,by omega,by rw [D6,e];rfl,?_⟩;rw [Em,e];(try simp (disch:=omega) only [fd6,fd12,fd18,Be r,Be (r / 64),Be (r / 4096),Be (r / 262144),K1,K8,K0,K5,La]);simp;(try omega);done)|(have e:=Nk (r:=r) omg;refine ⟨by simp,(by first | assumption | omega),by omega,by omega,by rw [D6,e];rfl,?_⟩;rw [Em,e];(try simp (disch:=omega) only [fd6,fd12,fd18,Be r,Be (r / 64),Be (r / 4096),Be (r / 262144),K1,K8,K0,K5,La]);simp;(try omega);done)|(have e:=Wq (r:=r) omg;refine ⟨by simp,(by first | assumption | omega),by omega,by omega,by rw [D6,e];rfl,?_⟩;rw [Em,e];(try simp (disch:=omega) only [fd6,fd12,fd18,Be r,Be (r / 64),Be (r / 4096),Be (r / 262144),K1,K8,K0,K5,La]);simp;(try omega);done)
theorem H7 (r:Int) (es:List (List PV)) (n:Nat) (hl:es.length=n) (hn:n≤1000000000) (h1:-2147483648≤r) (h2:r≤2147483647):Det cx 294 [.own 1000 0 n,.p (.int .i32 r)] [(1000,.row 5 1 es)] (.own 900 0 (n+(utf r).length)) [(900,.row 5 1 (es ++ bstr (utf r)))]:=by
 (refine bgoR true [(12,900),(15,900)] Tryz.func294 ?_;simp only [go_sem,simprocAttr]);(repeat' (first | (apply iteI <;> intro h)|((refine Jqa (En r es n hl hn (by simp only [Ec] at *;omega) h1 h2) ?_);simp only [go_sem,simprocAttr]) | fail))
 all_goals simp only [Ec] at *
 ·have e:=Nb (r:=r) omg;refine ⟨by simp,(by first | assumption | omega),by omega,by omega,by rw [D6,e];rfl,?_⟩;rw [Em,e];(try simp (disch:=omega) only [fd6,fd12,fd18,Be r,Be (r / 64),Be (r / 4096),Be (r / 262144),K1,K8,K0,K5,La]);simp;(try omega)
theorem Ej (r:Int) (hr:¬ (0≤r∧r<128)) (h1:-2147483648≤r) (h2:r≤2147483647):Det cx 325 [.p .snil,.p (.int .i32 r)] [] (.own 900 0 (utf r).length) [(900,.row 5 1 (bstr (utf r)))]:=by
 (refine bgoR true [(10,900),(24,900),(49,900),(77,900)] Tryz.func325 ?_;simp only [go_sem,simprocAttr]);(repeat' (first | (apply iteI <;> intro h)|(refine Jqe ?_)|(exfalso;omega)))
 all_goals simp only [Ec] at *
 all_goals first | (have e:=Oc (r:=r) omg;refine ⟨by simp,by rw [D6,e];rfl,?_⟩;rw [Em,e];(try simp (disch:=omega) only [fd6,fd12,fd18,Be r,Be (r / 64),Be (r / 4096),Be (r / 262144),K1,K8,K0,K5,La]);simp;(try omega);done)|(have e:=Nd (r:=r) omg;refine ⟨by simp,by rw [D6,e];rfl,?_⟩;rw [Em,e];(try simp (disch:=omega) only [fd6,fd12,fd18,Be r,Be (r / 64),Be (r / 4096),Be (r / 262144),K1,K8,K0,K5,La]);simp;(try omega);done)|(have e:=Nk (r:=r) omg;refine ⟨by simp,by rw [D6,e];rfl,?_⟩;rw [Em,e];(try simp (disch:=omega) only [fd6,fd12,fd18,Be r,Be (r / 64),Be (r / 4096),Be (r / 262144),K1,K8,K0,K5,La]);simp;(try omega);done)|(have e:=Wq (r:=r) omg;refine ⟨by simp,by rw [D6,e];rfl,?_⟩;rw [Em,e];(try simp (disch:=omega) only [fd6,fd12,fd18,Be r,Be (r / 64),Be (r / 4096),Be (r / 262144),K1,K8,K0,K5,La]);simp;(try omega);done)
theorem H1 (r:Int) (h1:-2147483648≤r) (h2:r≤2147483647):Det cx 294 [.p .snil,.p (.int .i32 r)] [] (.own 900 0 (utf r).length) [(900,.row 5 1 (bstr (utf r)))]:=by
 (refine bgoR true [(12,900),(15,900)] Tryz.func294 ?_;simp only [go_sem,simprocAttr]);(repeat' (first | (apply iteI <;> intro h)|((refine Jqa (Ej r (by simp only [Ec] at *;omega) h1 h2) ?_);simp only [go_sem,simprocAttr]) | fail))
 all_goals simp only [Ec] at *
 ·have e:=Nb (r:=r) omg;refine ⟨by simp,by rw [D6,e];rfl,?_⟩;rw [Em,e];(try simp (disch:=omega) only [fd6,fd12,fd18,Be r,Be (r / 64),Be (r / 4096),Be (r / 262144),K1,K8,K0,K5,La]);simp;(try omega)
theorem Ed (r:Int) (es:List (List PV)) (n:Nat) (hl:es.length=n) (hn:n≤1000000000) (h1:-2147483648≤r) (h2:r≤2147483647):Det cx 256 [.ptr 1000 0 0,.p (.int .i32 r)] [(500001,.row 5 1 es),(1000,.var 221 [.ptr 1000 0 0,.own 500001 0 n])] (.tup [.int .i64 (utf r).length,.nifc]) [(500001,.row 5 1 (es ++ bstr (utf r))),(1000,.var 221 [.ptr 1000 0 0,.own 500001 0 (n+(utf r).length)])]:=by
 (refine bgoR false [(20,500001)] Tryz.func256 ?_;simp only [go_sem,simprocAttr]);(repeat' (first | ((first | (refine Jqa (Ct _ _) ?_)|(refine Jqa (H7 r es n hl hn h1 h2) ?_));simp only [go_sem,simprocAttr]) | fail));have:=Od r;simp (disch:=omega) only [Aa]
 (try simp);(try omega)
theorem Hb (r:Int) (h1:-2147483648≤r) (h2:r≤2147483647):Det cx 256 [.ptr 1000 0 0,.p (.int .i32 r)] [(1000,.var 221 [.p .nptr,.p .snil])] (.tup [.int .i64 (utf r).length,.nifc]) [(900,.row 5 1 (bstr (utf r))),(1000,.var 221 [.ptr 1000 0 0,.own 900 0 (utf r).length])]:=by
 (refine bgoR false [(20,900)] Tryz.func256 ?_;simp only [go_sem,simprocAttr]);(repeat' (first | ((first | (refine Jqa (Cm) ?_)|(refine Jqa (H1 r h1 h2) ?_));simp only [go_sem,simprocAttr]) | fail));have:=Od r;simp (disch:=omega) only [Aa]
 (try simp);(try omega)
theorem Fa:Det cx 254 [.ptr 1000 0 0] [(1000,.var 221 [.p .nptr,.p .snil])] (.p (.str [])) [(1000,.var 221 [.p .nptr,.p .snil])]:=by
 (refine bgo Tryz.func254 ?_;simp only [go_sem,simprocAttr]);(refine Gi 10 hm krf krf ?_;simp only [go_sem,simprocAttr]);exact ⟨_,rfl⟩
theorem Eo (s:List UInt8) (n:Nat) (hn:s.length=n) (h1:n≤1000000000) (h0:n≠0):Det cx 254 [.ptr 1000 0 0] [(500001,.row 5 1 (bstr s)),(1000,.var 221 [.ptr 1000 0 0,.own 500001 0 n])] (.p (.str s)) [(1000,.var 221 [.ptr 1000 0 0,.junk])]:=by
 (refine bgo Tryz.func254 ?_;simp only [go_sem,simprocAttr]);(refine Gi 10 hm krf krf ?_;simp only [go_sem,simprocAttr,Ox]);have h2:s≠[]:=fun h=>by subst h;exact h0 (by rw [← hn];rfl)
 simp [hn,h2];omega
def A8 (name:List UInt8):List (List UInt8×Tree)→List (List UInt8×Tree)
 | []=>[]
 | p :: l=>if p.1=name then A8 name l else p :: A8 name l
theorem Ku (name:List UInt8):∀ a b:List (List UInt8×Tree),A8 name (a ++ b)=A8 name a ++ A8 name b
 | [],b=>rfl
 | p :: a,b=>by
  simp only [List.cons_append,A8];split
  ·exact Ku name a b
  ·rw [Ku name a b];rfl
theorem Ld {name:List UInt8} {l:List (List UInt8×Tree)} {k:Nat} {p:List UInt8×Tree} (h:l[k]? = some p) (hn:p.1=name):A8 name (l.take (k+1))=A8 name (l.take k):=by
 rw [List.take_add_one,h,Ku];simp [A8,hn]
theorem C8 {name:List UInt8} {l:List (List UInt8×Tree)} {k:Nat} {p:List UInt8×Tree} (h:l[k]? = some p) (hn:p.1≠name):A8 name (l.take (k+1))=A8 name (l.take k) ++ [p]:=by
 rw [List.take_add_one,h,Ku];simp [A8,hn]
theorem Rg (name:List UInt8):∀ l:List (List UInt8×Tree),(A8 name l).length≤l.length
 | []=>Nat.le_refl _
 | p :: l=>by
  have:=Rg name l;simp only [A8];split <;> simp <;> omega
theorem T6 (a b:List (List UInt8×Tree)):Bd (a ++ b)=Bd a ++ Bd b:=by simp [Bd]
theorem Tj (a b:List (List UInt8×Tree)):A4 (a ++ b)=A4 a ++ A4 b:=by simp [A4]
theorem El (name:List UInt8):∀ f:Forest,(A1 (A8 name f.list)).enc.length≤f.enc.length
 | .nil=>Nat.le_refl _
 | .cons nm t r=>by
  have:=El name r;simp only [Forest.list,A8];split
  ·rw [A0,List.length_append];omega
  ·simp only [A1,A0,List.length_append];omega
def woR (name:List UInt8) (l:List (List UInt8×Tree)):Regs :=
 [(500000,.row 25 1 (A4 (A8 name l))),(500001,.row 9 1 (Bd (A8 name l))),(1002,.var 45 [.own 500000 0 (A8 name l).length]),(1003,.var 47 [.own 500001 0 (A8 name l).length]),(1004,.var 9 [.p (.str name)])]
theorem G7 (t:Tree) (nm:List UInt8):(t.enc nm).length=(t.enc []).length:=by
 cases t;rw [A6,A6];simp
theorem Cs (v:List Node) (i:Nat) (nm:List UInt8) (t:Tree) (rest:List Node) (hv:v.length≤1000000) (h:v.drop i=t.enc nm ++ rest):Det cx 85 [.p (.sl (valL v)),.p (.int .i64 i)] [] (.p (.int .i64 (i+(t.enc nm).length:Nat))) []:=by
 (refine bgo Tryz.func85 ?_;simp only [go_sem,simprocAttr]);have hp:=Et t nm;have hb:=L9 h (fun e=>by have e2:(t.enc nm ++ rest).length=0:=(by rw [e];rfl);rw [List.length_append] at e2;omega);rw [List.length_append] at hb;refine SWP.loop (fun x:Nat×Nat×Forest=>⟨Ba 41 [(0,.p (.sl (valL v))),(1,.p (.int .i64 x.1)),(5,.p (.int .i64 x.2.1))],[]⟩) (fun x=>x.2.1=x.2.2.len∧v.drop x.1=x.2.2.enc ++ rest∧x.1+x.2.2.enc.length=i+(t.enc nm).length) (fun x=>x.2.2.enc.length) (i,1,.cons nm t .nil) Jqb ⟨rfl,by simp [A0,Bl,h],by simp [A0,Bl]⟩ ?_;rintro ⟨j,left,F⟩ ⟨h0,h1,h2⟩;simp only at h0 h1 h2
 match F,h0,h1,h2 with
 | .nil,h0,h1,h2 =>
  rw [Bl] at h2;simp only [Forest.len] at h0;subst h0;(refine lws ?_;simp only [go_sem,simprocAttr]);simp only [List.length_nil] at h2;omega
 | .cons nm' (.mk k s g e kids) r,h0,h1,h2 =>
  rw [F2] at h0;rw [A0,A6] at h1 h2;have hg:=D5 h1;rw [C9] at hg;simp only [List.length_cons,List.length_append] at h2;have hl1:=Jqh kids;have hl2:=Jqh r;have w0:IntKind.i64.wrap ((left:Int) - 1)=(r.len:Int):=by rw [Aa omg omg];omega
  have w1:IntKind.i64.wrap ((r.len:Int)+(kids.len:Int))=((r.len+kids.len:Nat):Int):=by rw [Aa omg omg];omega
  (refine lws ?_;simp only [go_sem,simprocAttr,wj1 (i:=j) omg,hg,w0,w1,A7]);(repeat' (first | (apply iteI <;> intro h)|(exfalso;omega)))
  ·exact ⟨(j+1,r.len+kids.len,kids.app r),⟨by simp only [Jra];omega,by
    simp only [Jqj];rw [← List.drop_drop,h1];simp,by simp only [Jqj,List.length_append];omega⟩,by simp only [Jqj,A0,A6,List.length_append,List.length_cons];omega,Jqb⟩
theorem Mm (v:List Node) (i j:Nat) (nm:List UInt8) (t:Tree) (rest:List Node) (hv:v.length≤1000000) (h:v.drop i=t.enc nm ++ rest) (hj:j=i+(t.enc nm).length):Det cx 86 [.p (.sl (valL v)),.p (.int .i64 i),.p (.int .i64 j)] [] (.p (.sl (valL (t.enc [])))) []:=by
 cases t with
 | mk k s g e kids =>
 have hs:=Tf h;have hb:=L9 h (fun e=>by have e2:=congrArg List.length e;rw [A6] at e2;simp at e2);have hel:((Tree.mk k s g e kids).enc nm).length=kids.enc.length+1:=by rw [A6];rfl
 rw [List.length_append] at hb;have hs':((valL v).drop i).take (j - i)=[.int .i64 k,.int .i64 kids.len,.str nm,.str s,.bool g,.int .i64 e] :: valL kids.enc:=by
  rw [hj,Nat.add_sub_cancel_left,hs,A6,Nh,C9]
 have htk:(valL kids.enc).take kids.enc.length=valL kids.enc:=List.take_of_length_le sm;have h6:∀ q∈([.int .i64 k,.int .i64 kids.len,.str nm,.str s,.bool g,.int .i64 e] :: valL kids.enc:List (List PV)),q.length=6:=fun q hq=>E7 ((Tree.mk k s g e kids).enc nm) q (by rw [A6];exact hq)
 (refine bgo Tryz.func86 ?_;simp only [go_sem,simprocAttr,hs',A7,htk,Nat.le_refl]);(repeat' (first | (refine And.intro (E7 _) ?_)|(refine Jqe ?_) | fail));rw [A6];rfl
theorem Mi {v:List Node} {j:Nat} {nm:List UInt8} {t:Tree} {b:List Node} (h:v.drop j=t.enc nm ++ b):∃ k n s g e,(valL v)[j]? = some [.int .i64 k,.int .i64 n,.str nm,.str s,.bool g,.int .i64 e]:=by
 cases t with
 | mk k s g e kids =>
  rw [A6] at h;exact ⟨k,kids.len,s,g,e,D5 h⟩
theorem Dy (nm:List UInt8) (kd:Int) (s:List UInt8) (g:Bool) (e:Int) (kids:Forest) (hv:kids.enc.length≤999999):Det cx 26 [.p (.sl (valL ((Tree.mk kd s g e kids).enc nm)))] [] (.p (.sl (A4 kids.list))) []:=by
 have hl:=Jqh kids;have hkl:=Jqf kids;generalize hvv:(Tree.mk kd s g e kids).enc nm=v;have h0:v.drop 0=⟨kd,kids.len,nm,s,g,e⟩ :: kids.enc:=by rw [← hvv,A6];rfl
 have hg0:=D5 h0;rw [C9] at hg0;have hvl:v.length=kids.enc.length+1:=by rw [← hvv,A6];rfl
 (refine bgo Tryz.func26 ?_;simp only [go_sem,simprocAttr]);refine Jq0 (B1 [(7,25)] _ sm) ?_;simp only [go_sem,simprocAttr];refine SWP.loop (fun x:Nat×Nat×Forest=>⟨Ba 28 [(0,.p (.sl (valL v))),(3,.own 25 0 x.1),(4,.p (.int .i64 x.2.1)),(5,.p (.int .i64 x.1))],[(25,.row 25 1 (A4 (kids.list.take x.1)))]⟩) (fun x=>x.1+x.2.2.len=kids.len∧v.drop x.2.1=x.2.2.enc∧x.2.1+x.2.2.enc.length=v.length∧kids.list.drop x.1=x.2.2.list) (fun x=>x.2.2.enc.length) (0,1,kids) Jqb ⟨by simp,by rw [← hvv,A6];rfl,by simp only;omega,rfl⟩ ?_;rintro ⟨k,j,F⟩ ⟨h1,h2,h3,h4⟩;simp only at h1 h2 h3 h4 ⊢
 match F,h1,h2,h3,h4 with
 | .nil,h1,h2,h3,h4 =>
  simp only [Forest.len] at h1;have hkk:k=kids.len:=by omega
  subst hkk;have hpl:(kids.len≤(A4 (kids.list.take kids.len)).length)=True:=eq_true (by rw [A5,List.length_take];omega);have htk:(A4 (kids.list.take kids.len)).take kids.len=A4 kids.list:=by
   rw [List.take_of_length_le (by rw [A5,List.length_take];omega),List.take_of_length_le omg]
  have hgj:=hpl;(refine lws ?_;simp only [go_sem,simprocAttr,hg0,hpl,htk]);(repeat' (first | (apply iteI <;> intro h)|(exact True.intro)|(exfalso;omega)))
  skip
 | .cons nm' t' r,h1,h2,h3,h4 =>
  rw [F2] at h1;rw [A0] at h2 h3;rw [List.length_append] at h3;have hkk:kids.list[k]? = some (nm',t'):=by
   have:=congrArg (·[0]?) h4;simpa [Forest.list] using this
  have hpk:=Gs hkk;have hpl:(A4 (kids.list.take k)).length=k:=by rw [A5,List.length_take];omega
  have hw:=wj1 (i:=k) omg;have htk:=hw;have hgj:=hw;(refine lws ?_;simp only [go_sem,simprocAttr,hg0,hpl]);(repeat' (first | (apply iteI <;> intro h)|((first | (refine Jqa (Cs v j nm' t' r.enc omg h2) ?_)|(refine Jqa (Mm v j (j+(t'.enc nm').length) nm' t' r.enc omg h2 rfl) ?_));simp only [go_sem,simprocAttr,hpl,htk])|(exfalso;omega)));refine ⟨by simp,by omega,by omega,(k+1,j+(t'.enc nm').length,r),⟨by simp only;omega,by simp only;rw [← List.drop_drop,h2,List.drop_left],by simp only;omega,by simp only;rw [← List.drop_drop,h4];rfl⟩,by have:=Et t' nm';simp only [A0,List.length_append];omega,?_⟩;simp only;rw [hpk];exact Jqb
theorem Qx (nm:List UInt8) (kd:Int) (s:List UInt8) (g:Bool) (e:Int) (kids:Forest) (hv:kids.enc.length≤999999):Det cx 26 [.p (.sl (valL ((Tree.mk kd s g e kids).enc nm)))] [] (.own 900 0 kids.len) [(900,.row 25 1 (A4 kids.list))]:=by
 have hl:=Jqh kids;have hkl:=Jqf kids;generalize hvv:(Tree.mk kd s g e kids).enc nm=v;have h0:v.drop 0=⟨kd,kids.len,nm,s,g,e⟩ :: kids.enc:=by rw [← hvv,A6];rfl
 have hg0:=D5 h0;rw [C9] at hg0;have hvl:v.length=kids.enc.length+1:=by rw [← hvv,A6];rfl
 (refine bgoR true [(25,900)] Tryz.func26 ?_;simp only [go_sem,simprocAttr]);refine Jq0 (B1 [(7,25)] _ sm) ?_;simp only [go_sem,simprocAttr];refine SWP.loop (fun x:Nat×Nat×Forest=>⟨Ba 28 [(0,.p (.sl (valL v))),(3,.own 25 0 x.1),(4,.p (.int .i64 x.2.1)),(5,.p (.int .i64 x.1))],[(25,.row 25 1 (A4 (kids.list.take x.1)))]⟩) (fun x=>x.1+x.2.2.len=kids.len∧v.drop x.2.1=x.2.2.enc∧x.2.1+x.2.2.enc.length=v.length∧kids.list.drop x.1=x.2.2.list) (fun x=>x.2.2.enc.length) (0,1,kids) Jqb ⟨by simp,by rw [← hvv,A6];rfl,by simp only;omega,rfl⟩ ?_;rintro ⟨k,j,F⟩ ⟨h1,h2,h3,h4⟩;simp only at h1 h2 h3 h4 ⊢
 match F,h1,h2,h3,h4 with
 | .nil,h1,h2,h3,h4 =>
  simp only [Forest.len] at h1;have hkk:k=kids.len:=by omega
  subst hkk;have hpl:(kids.len≤(A4 (kids.list.take kids.len)).length)=True:=eq_true (by rw [A5,List.length_take];omega);have htk:(A4 (kids.list.take kids.len)).take kids.len=A4 kids.list:=by
   rw [List.take_of_length_le (by rw [A5,List.length_take];omega),List.take_of_length_le omg]
  have hgj:=hpl;(refine lws ?_;simp only [go_sem,simprocAttr,hg0]);(repeat' (first | (apply iteI <;> intro h)|(exfalso;omega)));rw [List.take_of_length_le (Nat.le_of_eq hkl)]
 | .cons nm' t' r,h1,h2,h3,h4 =>
  rw [F2] at h1;rw [A0] at h2 h3;rw [List.length_append] at h3;have hkk:kids.list[k]? = some (nm',t'):=by
   have:=congrArg (·[0]?) h4;simpa [Forest.list] using this
  have hpk:=Gs hkk;have hpl:(A4 (kids.list.take k)).length=k:=by rw [A5,List.length_take];omega
  have hw:=wj1 (i:=k) omg;have htk:=hw;have hgj:=hw;(refine lws ?_;simp only [go_sem,simprocAttr,hg0]);(repeat' (first | (apply iteI <;> intro h)|(refine Jqe ?_)|((first | (refine Jqa (Cs v j nm' t' r.enc omg h2) ?_)|(refine Jqa (Mm v j (j+(t'.enc nm').length) nm' t' r.enc omg h2 rfl) ?_));simp only [go_sem,simprocAttr,hpl,htk])|(exfalso;omega)));refine ⟨by simp,by omega,by omega,(k+1,j+(t'.enc nm').length,r),⟨by simp only;omega,by simp only;rw [← List.drop_drop,h2,List.drop_left],by simp only;omega,by simp only;rw [← List.drop_drop,h4];rfl⟩,by have:=Et t' nm';simp only [A0,List.length_append];omega,?_⟩;simp only;rw [hpk];exact Jqb
theorem Ir (nm:List UInt8) (s:List UInt8) (g:Bool) (e:Int) (kids:Forest) (hv:kids.enc.length≤999999):Det cx 27 [.p (.sl (valL ((Tree.mk 6 s g e kids).enc nm)))] [] (.p (.sl (Bd kids.list))) []:=by
 have hl:=Jqh kids;have hkl:=Jqf kids;generalize hvv:(Tree.mk 6 s g e kids).enc nm=v;have h0:v.drop 0=⟨6,kids.len,nm,s,g,e⟩ :: kids.enc:=by rw [← hvv,A6];rfl
 have hg0:=D5 h0;rw [C9] at hg0;have hvl:v.length=kids.enc.length+1:=by rw [← hvv,A6];rfl
 (refine bgo Tryz.func27 ?_;simp only [go_sem,simprocAttr]);refine Jq0 (B1 [(6,29)] _ sm) ?_;simp only [go_sem,simprocAttr];refine SWP.loop (fun x:Nat×Nat×Forest=>⟨Ba 34 [(0,.p (.sl (valL v))),(3,.own 29 0 x.1),(4,.p (.int .i64 x.2.1)),(5,.p (.int .i64 x.1))],[(29,.row 9 1 (Bd (kids.list.take x.1)))]⟩) (fun x=>x.1+x.2.2.len=kids.len∧v.drop x.2.1=x.2.2.enc∧x.2.1+x.2.2.enc.length=v.length∧kids.list.drop x.1=x.2.2.list) (fun x=>x.2.2.enc.length) (0,1,kids) Jqb ⟨by simp,by rw [← hvv,A6];rfl,by simp only;omega,rfl⟩ ?_;rintro ⟨k,j,F⟩ ⟨h1,h2,h3,h4⟩;simp only at h1 h2 h3 h4 ⊢
 match F,h1,h2,h3,h4 with
 | .nil,h1,h2,h3,h4 =>
  simp only [Forest.len] at h1;have hkk:k=kids.len:=by omega
  subst hkk;have hpl:(kids.len≤(Bd (kids.list.take kids.len)).length)=True:=eq_true (by rw [A9,List.length_take];omega);have htk:(Bd (kids.list.take kids.len)).take kids.len=Bd kids.list:=by
   rw [List.take_of_length_le (by rw [A9,List.length_take];omega),List.take_of_length_le omg]
  have hgj:=hpl;(refine lws ?_;simp only [go_sem,simprocAttr,hg0,hpl,htk]);(repeat' (first | (exfalso;omega)|(apply iteI <;> intro h)|(exact True.intro)))
  skip
 | .cons nm' t' r,h1,h2,h3,h4 =>
  rw [F2] at h1;rw [A0] at h2 h3;rw [List.length_append] at h3;have hkk:kids.list[k]? = some (nm',t'):=by
   have:=congrArg (·[0]?) h4;simpa [Forest.list] using this
  have hpk:=Lr hkk;have hpl:(Bd (kids.list.take k)).length=k:=by rw [A9,List.length_take];omega
  have hw:=wj1 (i:=k) omg;have htk:=hw;obtain ⟨k9,n9,s9,g9,e9,hgj⟩:=Mi h2;(refine lws ?_;simp only [go_sem,simprocAttr,hg0,hpl,hgj]);(repeat' (first | (apply iteI <;> intro h)|(exfalso;omega)));refine ⟨by simp,by omega,by omega,?_⟩;(repeat' (first | ((refine Jqa (Cs v j nm' t' r.enc omg h2) ?_);simp only [go_sem,simprocAttr,htk]) | fail));refine ⟨(k+1,j+(t'.enc nm').length,r),⟨by simp only;omega,by simp only;rw [← List.drop_drop,h2,List.drop_left],by simp only;omega,by simp only;rw [← List.drop_drop,h4];rfl⟩,by have:=Et t' nm';simp only [A0,List.length_append];omega,?_⟩;simp only;rw [hpk];exact Jqb
theorem Jau (nm:List UInt8) (s:List UInt8) (g:Bool) (e:Int) (kids:Forest) (hv:kids.enc.length≤999999):Det cx 27 [.p (.sl (valL ((Tree.mk 6 s g e kids).enc nm)))] [] (.own 900 0 kids.len) [(900,.row 9 1 (Bd kids.list))]:=by
 have hl:=Jqh kids;have hkl:=Jqf kids;generalize hvv:(Tree.mk 6 s g e kids).enc nm=v;have h0:v.drop 0=⟨6,kids.len,nm,s,g,e⟩ :: kids.enc:=by rw [← hvv,A6];rfl
 have hg0:=D5 h0;rw [C9] at hg0;have hvl:v.length=kids.enc.length+1:=by rw [← hvv,A6];rfl
 (refine bgoR true [(29,900)] Tryz.func27 ?_;simp only [go_sem,simprocAttr]);refine Jq0 (B1 [(6,29)] _ sm) ?_;simp only [go_sem,simprocAttr];refine SWP.loop (fun x:Nat×Nat×Forest=>⟨Ba 34 [(0,.p (.sl (valL v))),(3,.own 29 0 x.1),(4,.p (.int .i64 x.2.1)),(5,.p (.int .i64 x.1))],[(29,.row 9 1 (Bd (kids.list.take x.1)))]⟩) (fun x=>x.1+x.2.2.len=kids.len∧v.drop x.2.1=x.2.2.enc∧x.2.1+x.2.2.enc.length=v.length∧kids.list.drop x.1=x.2.2.list) (fun x=>x.2.2.enc.length) (0,1,kids) Jqb ⟨by simp,by rw [← hvv,A6];rfl,by simp only;omega,rfl⟩ ?_;rintro ⟨k,j,F⟩ ⟨h1,h2,h3,h4⟩;simp only at h1 h2 h3 h4 ⊢
 match F,h1,h2,h3,h4 with
 | .nil,h1,h2,h3,h4 =>
  simp only [Forest.len] at h1;have hkk:k=kids.len:=by omega
  subst hkk;have hpl:(kids.len≤(Bd (kids.list.take kids.len)).length)=True:=eq_true (by rw [A9,List.length_take];omega);have htk:(Bd (kids.list.take kids.len)).take kids.len=Bd kids.list:=by
   rw [List.take_of_length_le (by rw [A9,List.length_take];omega),List.take_of_length_le omg]
  have hgj:=hpl;(refine lws ?_;simp only [go_sem,simprocAttr,hg0]);(repeat' (first | (exfalso;omega)|(apply iteI <;> intro h)));rw [List.take_of_length_le (Nat.le_of_eq hkl)]
 | .cons nm' t' r,h1,h2,h3,h4 =>
  rw [F2] at h1;rw [A0] at h2 h3;rw [List.length_append] at h3;have hkk:kids.list[k]? = some (nm',t'):=by
   have:=congrArg (·[0]?) h4;simpa [Forest.list] using this
  have hpk:=Lr hkk;have hpl:(Bd (kids.list.take k)).length=k:=by rw [A9,List.length_take];omega
  have hw:=wj1 (i:=k) omg;have htk:=hw;obtain ⟨k9,n9,s9,g9,e9,hgj⟩:=Mi h2;(refine lws ?_;simp only [go_sem,simprocAttr,hg0,hpl,hgj]);(repeat' (first | (apply iteI <;> intro h)|(refine Jqe ?_)|(exfalso;omega)));refine ⟨by simp,by omega,by omega,?_⟩;(repeat' (first | ((refine Jqa (Cs v j nm' t' r.enc omg h2) ?_);simp only [go_sem,simprocAttr,htk]) | fail));refine ⟨(k+1,j+(t'.enc nm').length,r),⟨by simp only;omega,by simp only;rw [← List.drop_drop,h2,List.drop_left],by simp only;omega,by simp only;rw [← List.drop_drop,h4];rfl⟩,by have:=Et t' nm';simp only [A0,List.length_append];omega,?_⟩;simp only;rw [hpk];exact Jqb
def unn (l:List (List UInt8×Tree)):List (List UInt8×Tree):=l.map fun p=>([],p.2)
theorem Kp (l:List (List UInt8×Tree)):(unn l).length=l.length:=by simp [unn]
def hdK (k:Int) (n:Nat):List PV:=[.int .i64 k,.int .i64 n,.str [],.str [],.bool false,.int .i64 0]
theorem Oi (l:List (List UInt8×Tree)) (k:Nat):(A1 (l.take k)).enc.length≤(A1 l).enc.length:=by
 have e1:A1 l=(A1 (l.take k)).app (A1 (l.drop k)):=by rw [← Hz,List.take_append_drop]
 rw [e1,Jqj,List.length_append];omega
theorem Nu {l:List (List UInt8×Tree)} {k:Nat} {p:List UInt8×Tree} (h:l[k]? = some p):(A1 (l.take (k+1))).enc=(A1 (l.take k)).enc ++ p.2.enc p.1:=by
 rw [List.take_add_one,h,Option.toList_some,Hz,Jqj];simp only [A1,A0,Bl,List.append_nil]
theorem Tt (l:List (List UInt8×Tree)) (hv:(A1 (unn l)).enc.length≤999999):Det cx 45 [.p (.sl (A4 l))] [] (.p (.sl (valL ((Tree.mk 5 [] false 0 (A1 (unn l))).enc [])))) []:=by
 have hll:=Jqh (A1 (unn l));rw [Ca,Kp] at hll;(refine bgo Tryz.func45 ?_;simp only [go_sem,simprocAttr,A5]);refine Jq0 (B1 [(8,20)] _ sm) ?_;simp only [go_sem,simprocAttr];refine SWP.loop (fun x:Nat×Nat×List (List PV)=>⟨Ba 22 [(0,.p (.sl (A4 l))),(3,.own 20 0 x.2.1),(4,.p (.int .i64 x.1))],[(20,.row 29 6 x.2.2)]⟩) (fun x=>x.1≤l.length∧x.2.1=(A1 ((unn l).take x.1)).enc.length+1∧x.2.2=hdK 5 l.length :: valL (A1 ((unn l).take x.1)).enc) (fun x=>l.length - x.1) (0,1,[hdK 5 l.length]) (by unfold hdK;exact Jqb) ⟨Nat.zero_le _,rfl,rfl⟩ ?_;rintro ⟨k,m,es⟩ ⟨hk,hm',hes⟩;simp only at hk hm' hes;have hml:es.length=m:=by rw [hes,hm'];simp
 have htk:es.take m=es:=List.take_of_length_le omg;by_cases hlt:¬ k<l.length
 ·have htl:(unn l).take k=unn l:=List.take_of_length_le (by rw [Kp];omega);rw [htl] at hes hm';have hkl:((k:Int)<(l.length:Int))=False:=eq_false omg;have hpl:=hkl;have hw:=hkl;(refine lws ?_;simp only [go_sem,simprocAttr,A5,hkl,hml,htk,Nat.le_refl]);rw [hes,A6,Ca,Kp];rfl
 ·have hlt:=Decidable.not_not.1 hlt;obtain ⟨p,hp⟩:∃ p,l[k]? = some p:=⟨_,List.getElem?_eq_getElem hlt⟩
  have hpl:(A4 l)[k]? = some [.sl (valL (p.2.enc []))]:=by simp [A4,hp]
  have hup:(unn l)[k]? = some ([],p.2):=by simp [unn,hp]
  have hkl:((k:Int)<(l.length:Int))=True:=eq_true omg;have h1:=Nu hup;have h2:=Oi (unn l) (k+1);rw [h1,List.length_append] at h2;have hw:=wj1 (i:=k) omg;(refine lws ?_;simp only [go_sem,simprocAttr,A5,hkl,hpl,hw,hml,A7]);simp only at h1 h2;refine ⟨E7 _,by omega,by omega,(k+1,m+(p.2.enc []).length,es ++ valL (p.2.enc [])),⟨by simp only;omega,?_,?_⟩,by simp only;omega,?_⟩
  ·simp only;rw [h1,List.length_append,hm'];omega
  ·simp only;rw [h1,Ji,hes];rfl
  ·exact Jqb
theorem Iy (l:List (List UInt8×Tree)) (hv:(A1 l).enc.length≤999999):Det cx 166 [.p (.sl (Bd l)),.p (.sl (A4 l))] [] (.p (.sl (valL ((Tree.mk 6 [] false 0 (A1 l)).enc [])))) []:=by
 have hll:=Jqh (A1 l);rw [Ca] at hll;(refine bgo Tryz.func166 ?_;simp only [go_sem,simprocAttr,A5]);refine Jq0 (B1 [(12,26)] _ sm) ?_;simp only [go_sem,simprocAttr];refine SWP.loop (fun x:Nat×Nat×List (List PV)=>⟨Ba 41 [(0,.p (.sl (Bd l))),(1,.p (.sl (A4 l))),(5,.own 26 0 x.2.1),(6,.p (.int .i64 x.1))],[(26,.row 29 6 x.2.2)]⟩) (fun x=>x.1≤l.length∧x.2.1=(A1 (l.take x.1)).enc.length+1∧x.2.2=hdK 6 l.length :: valL (A1 (l.take x.1)).enc) (fun x=>l.length - x.1) (0,1,[hdK 6 l.length]) (by unfold hdK;exact Jqb) ⟨Nat.zero_le _,rfl,rfl⟩ ?_;rintro ⟨k,m,es⟩ ⟨hk,hm',hes⟩;simp only at hk hm' hes;have hml:es.length=m:=by rw [hes,hm'];simp
 have htk:es.take m=es:=List.take_of_length_le omg;by_cases hlt:¬ k<l.length
 ·have htl:l.take k=l:=List.take_of_length_le omg;rw [htl] at hes hm';have hkl:((k:Int)<(l.length:Int))=False:=eq_false omg;have hpl:=hkl;have hnl:=hkl;have hge:=hkl;have hsp:=hkl;have hw:=hkl;have hvl:=hkl;(refine lws ?_;simp only [go_sem,simprocAttr,A5,hkl,hml,htk,Nat.le_refl]);rw [hes,A6,Ca];rfl
 ·have hlt:=Decidable.not_not.1 hlt;obtain ⟨p,hp⟩:∃ p,l[k]? = some p:=⟨_,List.getElem?_eq_getElem hlt⟩
  have hpl:(A4 l)[k]? = some [.sl (valL (p.2.enc []))]:=by simp [A4,hp]
  have hnl:(Bd l)[k]? = some [.str p.1]:=by simp [Bd,hp]
  have hkl:((k:Int)<(l.length:Int))=True:=eq_true omg;have h1:=Nu hp;have h2:=Oi l (k+1);rw [h1,List.length_append] at h2;have hw:=wj1 (i:=k) omg;obtain ⟨⟨nm',t⟩,rfl⟩:∃ q,q=p:=⟨p,rfl⟩
  cases t with
  | mk kd' s' g' e' kids' =>
  have hge:(es ++ valL ((Tree.mk kd' s' g' e' kids').enc []))[m]? = some [.int .i64 kd',.int .i64 kids'.len,.str [],.str s',.bool g',.int .i64 e']:=by
   rw [List.getElem?_append_right omg,hml,Nat.sub_self,A6];rfl
  have hsp:(es ++ valL ((Tree.mk kd' s' g' e' kids').enc [])).set m [.int .i64 kd',.int .i64 kids'.len,.str nm',.str s',.bool g',.int .i64 e']=es ++ valL ((Tree.mk kd' s' g' e' kids').enc nm'):=by
   rw [List.set_append_right _ _ omg,hml,Nat.sub_self,A6,A6];rfl
  have hvl:((Tree.mk kd' s' g' e' kids').enc []).length=((Tree.mk kd' s' g' e' kids').enc nm').length:=by rw [G7 _ nm']
  simp only at h1 h2;(refine lws ?_;simp only [go_sem,simprocAttr,A5,hkl,hpl,hnl,hge,hsp,hw,hvl,hml,Nat.le_refl,A7]);have hpos:=Et (Tree.mk kd' s' g' e' kids') nm';refine ⟨E7 _,by omega,by omega,?_⟩;(repeat' (first | (refine Jqe ?_) | fail));refine ⟨(k+1,m+((Tree.mk kd' s' g' e' kids').enc nm').length,es ++ valL ((Tree.mk kd' s' g' e' kids').enc nm')),⟨by simp only;omega,?_,?_⟩,by simp only;omega,?_⟩
  ·simp only;rw [h1,List.length_append,hm'];omega
  ·simp only;rw [h1,Ji,hes];rfl
  ·exact Jqb
theorem d_tz:Det cx 347 [.p (.int .u64 16)] [] (.p (.int .i64 4)) []:=by
 refine Jrl (v:=.int .i64 4) (enters_of Tryz.func347 krf rfl) rfl (fun _ _ _=>.int _ _) fun β Im w vs hg hf=>?_
 obtain ⟨v,rfl,hv⟩:=fit1 hf;have:=Mz hv;subst this;have hc:Lib.ctz 64 16=4:=by decide
 refine (Any7.bits_TrailingZeros J0k 16 de w (fun _=>(Jbj hg).tz)).mono fun e w' ⟨he,hw⟩=>?_
 subst hw;rw [hc] at he;exact ⟨he,Below.refl _ _⟩
theorem Rj:Det cx 346 [.p (.int .i64 16)] [] (.p (.bool true)) []:=by
 (refine bgo Tryz.func346 ?_;simp only [go_sem,simprocAttr]);decide
theorem f_z133:Bu Tryz.prog 303=some [.int .u8 0,.int .u8 0,.int .u8 0,.int .u8 0,.int .u8 0,.int .u8 0,.int .u8 0,.int .u8 0,.int .u8 0,.int .u8 0,.int .u8 0,.int .u8 0,.int .u8 0,.int .u8 0,.int .u8 0,.int .u8 0,.int .u8 0,.int .u8 0,.int .u8 0,.int .u8 0,.int .u8 0,.int .u8 0,.int .u8 0,.int .u8 0,.int .u8 0,.int .u8 0,.int .u8 0,.int .u8 0,.int .u8 0,.int .u8 0,.int .u8 0,.int .u8 0,.int .u8 0,.int .u8 0,.int .u8 0,.int .u8 0,.int .u8 0,.int .u8 0,.int .u8 0,.int .u8 0,.int .u8 0,.int .u8 0,.int .u8 0,.int .u8 0,.int .u8 0,.int .u8 0,.int .u8 0,.int .u8 0,.int .u8 0,.int .u8 0,.int .u8 0,.int .u8 0,.int .u8 0,.int .u8 0,.int .u8 0,.int .u8 0,.int .u8 0,.int .u8 0,.int .u8 0,.int .u8 0,.int .u8 0,.int .u8 0,.int .u8 0,.int .u8 0,.int .u8 0]:=krf
theorem wc1:IntKind.u64.wrap 16=16:=by decide
theorem wc2:IntKind.u64.wrap 15=15:=by decide
theorem wc3:IntKind.u64.wrap 4=4:=by decide
theorem wc4:IntKind.i64.wrap 64=64:=by decide
theorem wc5:IntKind.i64.wrap 63=63:=by decide
theorem wc6:IntKind.i64.wrap 62=62:=by decide
theorem Jjm (x:Nat):IntKind.u64.wrap (BitVec.ofInt (B0 .u64) (x:Int) &&& BitVec.ofInt (B0 .u64) 15).toNat=((x % 16:Nat):Int):=by
 have e:(BitVec.ofInt (B0 .u64) (x:Int) &&& BitVec.ofInt (B0 .u64) 15).toNat=x % 16:=by
  show (BitVec.ofInt 64 (x:Int) &&& BitVec.ofInt 64 15).toNat=x % 16;rw [BitVec.toNat_and,show (BitVec.ofInt 64 15).toNat=2 ^ 4 - 1 by decide,Nat.and_two_pow_sub_one_eq_mod];simp
 rw [e,Mf omg omg]
theorem fd4 (x:Nat):(x:Int).fdiv (2 ^ min 4 (B0 .u64))=((x / 16:Nat):Int):=by
 rw [Int.fdiv_eq_ediv_of_nonneg _ de];simp [B0,IntKind.bits]
def hexds:List UInt8:=[48,49,50,51,52,53,54,55,56,57,97,98,99,100,101,102,103,104,105,106,107,108,109,110,111,112,113,114,115,116,117,118,119,120,121,122]
def hexd (n:Nat):UInt8:=hexds.getD n 0
theorem Mj (u:Nat) (h1:256≤u) (h2:u<4096):Det cx 314 [.p .snil,.p (.int .u64 u),.p (.int .i64 16),.p (.bool false),.p (.bool false)] [] (.tup [.snil,.str [hexd (u / 16 / 16),hexd (u / 16 % 16),hexd (u % 16)]]) []:=by
 (refine bgo Tryz.func314 ?_;simp only [go_sem,simprocAttr,f_z133]);(repeat' (first | ((first | (refine Jqa (d_tz) ?_)|(refine Jqa (Rj) ?_));simp only [go_sem,simprocAttr,wc1,wc2,wc3]) | fail));(refine SWP.rounds 4 ?_;refine Jse hm ?_;simp only [go_sem,simprocAttr,wc4,Jjm,fd4]);(repeat' (first | (apply iteI <;> intro h)|(refine Jqe ?_)|(refine Jse hm ?_;simp only [go_sem,simprocAttr,wc5,wc6,Jjm,fd4])|(exfalso;omega)));exact ⟨rfl,rfl,rfl⟩
def hex3 (u:Nat):List UInt8:=[hexd (u / 16 / 16),hexd (u / 16 % 16),hexd (u % 16)]
theorem wcn {u:Nat} (h:u<4096):IntKind.u64.wrap (u:Int)=u:=Mf omg omg
theorem Ke (u:Nat) (h1:256≤u) (h2:u<4096):Det cx 278 [.p (.int .i64 u),.p (.int .i64 16)] [] (.p (.str (hex3 u))) []:=by
 (refine bgo Tryz.func278 ?_;simp only [go_sem,simprocAttr,wcn h2]);(repeat' (first | ((refine Jqa (Mj u h1 h2) ?_);simp only [go_sem,simprocAttr,wcn h2]) | fail));rfl
theorem Ph (u:Nat) (h1:256≤u) (h2:u<4096):Det cx 260 [.p (.int .i64 u),.p (.int .i64 16)] [] (.p (.str (hex3 u))) []:=by
 (refine bgo Tryz.func260 ?_;simp only [go_sem,simprocAttr]);(repeat' (first | ((refine Jqa (Ke u h1 h2) ?_);simp only [go_sem,simprocAttr]) | fail))
def low (c:Nat):Nat:=if c / 32 % 2=1 then c else c+32
theorem or32 (c:Nat) (h:c≤255):IntKind.u8.wrap (BitVec.ofInt (B0 .u8) (c:Int) ||| BitVec.ofInt (B0 .u8) 32).toNat=(low c:Int):=by
 have key:∀ m:Fin 256,IntKind.u8.wrap (BitVec.ofInt (B0 .u8) (m.val:Int) ||| BitVec.ofInt (B0 .u8) 32).toNat=(low m.val:Int):=by decide
 exact key ⟨c,by omega⟩
theorem Jde (c:Nat) (h:c≤255):Det cx 350 [.p (.int .u8 c)] [] (.p (.int .u8 (low c))) []:=by
 (refine bgo Tryz.func350 ?_;simp only [go_sem,simprocAttr]);rw [or32 c h]
def hexv (c:Nat):Option Nat:=if 48≤c∧c≤57 then some (c - 48) else if 97≤c∧c≤102 then some (c - 87) else if 65≤c∧c≤70 then some (c - 55) else none
def hexN:List UInt8→Nat→Option Nat
 | [],a=>some a
 | c :: s,a=>match hexv c.toNat with
  | some d=>hexN s (a * 16+d)
  | none=>none
def Jbb (o:Option Nat):L:=match o with
 | some n=>.tup [.int .u64 n,.nifc]
 | none=>.tup [.int .u64 0,.ifi 261 .i64 2]
theorem Jdb (s:List UInt8) (i:Nat):(s.getD i default).toNat=at_ s i:=rfl
theorem wc7:IntKind.u64.wrap (1 * 2 ^ min 16 (B0 .u64))=65536:=by decide
theorem wc8:IntKind.u64.wrap 65535=65535:=by decide
theorem Nn {s:List UInt8} {i n:Nat} (h:i<s.length):hexN (s.drop i) n=(match hexv (at_ s i) with | some d=>hexN (s.drop (i+1)) (n * 16+d) | none=>none):=by
 rw [List.drop_eq_getElem_cons h];simp only [hexN];rw [Ql h]
theorem Je6 (c:Nat):(c / 32 % 2=1∧low c=c)∨(c / 32 % 2≠1∧low c=c+32):=by
 unfold low;split <;> omega
theorem Kf (s:List UInt8) (hs:s.length=4):Det cx 326 [.p (.str s),.p (.int .i64 16),.p (.int .i64 16)] [] (Jbb (hexN s 0)) []:=by
 (refine bgo Tryz.func326 ?_;simp only [go_sem,simprocAttr,wc1,wc7,wc8]);(repeat' (first | (apply iteI <;> intro h)|(exfalso;omega)));refine SWP.loop (fun x:Nat×Nat=>⟨Ba 172 [(1,.p (.int .i64 16)),(2,.p (.int .i64 16)),(8,.p (.bool false)),(9,.p (.str s)),(10,.p (.int .u64 1152921504606846976)),(11,.p (.int .u64 65535)),(12,.p (.bool false)),(13,.p (.int .u64 x.2)),(99,.p (.sl (s.map fun c=>[.int .u8 c.toNat]))),(100,.p (.int .i64 s.length)),(101,.p (.int .i64 x.1))],[]⟩) (fun x=>x.1≤4∧x.2<16 ^ x.1∧hexN (s.drop x.1) x.2=hexN s 0) (fun x=>4 - x.1) (0,0) Jqb ⟨by omega,by decide,rfl⟩ ?_;rintro ⟨i,n⟩ ⟨h1,h2,h3⟩;(refine lws ?_;simp only [go_sem,simprocAttr,wc1,Jdb]);simp only at h1 h2 h3;have hL:=Je6 (at_ s i);have hA:=Fr s i;have hP:i<4→n<4096:=fun h=>Nat.lt_of_lt_of_le h2 (Nat.le_trans (Nat.pow_le_pow_right de (show i≤3 by omega)) de)
 have hS:i<4→∀ d<16,n * 16+d<16 ^ (i+1):=fun h d hd=>by rw [Nat.pow_succ];omega
 (repeat' (first | (apply iteI <;> intro h)|(refine Jqe ?_)|((refine Jqa (Jde _ (Fr s i)) ?_);simp only [go_sem,simprocAttr,wc1])|(exfalso;omega)))
 all_goals (try simp only [Be,Ub] at *)
 all_goals first
  | (exfalso;omega)
  | (
   have e:hexN s 0=none:=by
    rw [← h3,Nn omg,show hexv (at_ s i)=none by unfold hexv;rw [if_neg omg,if_neg omg,if_neg omg]]
   rw [e];rfl)
  | (
   have e:hexN s 0=some n:=by
    rw [← h3,List.drop_eq_nil_of_le omg];rfl
   rw [e];rfl)
  | (
   have h57:at_ s i≤57:=by omega
   obtain ⟨d,hd,hv,ho⟩:∃ d,d<16∧hexv (at_ s i)=some d∧(d:Int)=at_ s i - 48:=⟨at_ s i - 48,by omega,by unfold hexv;rw [if_pos omg],by omega⟩
   refine ⟨(i+1,n * 16+d),⟨by simp only;omega,hS omg d hd,?_⟩,by simp only;omega,Jqb⟩;simp only;rw [← h3,Nn (i:=i) (n:=n) omg,hv])
  | (
   obtain ⟨d,hd,hv,ho⟩:∃ d,d<16∧hexv (at_ s i)=some d∧(d:Int)=low (at_ s i) - 87:=by
    by_cases h97:97≤at_ s i
    ·exact ⟨at_ s i - 87,by omega,by unfold hexv;rw [if_neg omg,if_pos omg],by omega⟩
    ·exact ⟨at_ s i - 55,by omega,by unfold hexv;rw [if_neg omg,if_neg omg,if_pos omg],by omega⟩
   refine ⟨(i+1,n * 16+d),⟨by simp only;omega,hS omg d hd,?_⟩,by simp only;omega,Jqb⟩;simp only;rw [← h3,Nn (i:=i) (n:=n) omg,hv])
end Go.LX
namespace Go.LX
open Go
def dec (s:List UInt8) (i:Nat):Nat×Nat:=Utf8.decode ⟨⟨s⟩⟩ i
def ct (s:List UInt8) (k:Nat):Bool:=decide (k<s.length) && (decide (128≤at_ s k) && decide (at_ s k<192))
def rlen (s:List UInt8) (i:Nat):Nat :=
 if at_ s i<128 then 1
 else if 194≤at_ s i∧at_ s i<224∧ct s (i+1)=true then 2
 else if 224≤at_ s i∧at_ s i<240∧ct s (i+1)=true∧ct s (i+2)=true then
  (if (at_ s i=224∧at_ s (i+1)<160)∨(at_ s i=237∧160≤at_ s (i+1)) then 0 else 3)
 else if 240≤at_ s i∧at_ s i<245∧ct s (i+1)=true∧ct s (i+2)=true∧ct s (i+3)=true then
  (if (at_ s i=240∧at_ s (i+1)<144)∨(at_ s i=244∧144≤at_ s (i+1)) then 0 else 4)
 else 0
def code (s:List UInt8) (i:Nat):Nat :=
 if at_ s i<128 then at_ s i
 else if at_ s i<224 then at_ s i % 32 * 64+at_ s (i+1) % 64
 else if at_ s i<240 then at_ s i % 16 * 4096+at_ s (i+1) % 64 * 64+at_ s (i+2) % 64
 else at_ s i % 8 * 262144+at_ s (i+1) % 64 * 4096+at_ s (i+2) % 64 * 64+at_ s (i+3) % 64
theorem get_at (s:List UInt8) (k:Nat):((⟨⟨s⟩⟩:ByteArray).get! k).toNat=at_ s k:=by
 simp only [ByteArray.get!,at_,List.getD_eq_getElem?_getD];by_cases h:k<s.length
 ·simp [h]
 ·simp [h];rfl
theorem J3 {s:List UInt8} {k:Nat}:ct s k=true ↔ k<s.length∧at_ s k / 64=2:=by
 simp only [ct,Bool.and_eq_true,decide_eq_true_eq];omega
theorem Jf4 (c:Nat):Utf8.valid (c:Int)=true ↔ c<55296∨(57344≤c∧c≤1114111):=by
 simp only [Utf8.valid,Bool.or_eq_true,Bool.and_eq_true,decide_eq_true_eq];omega
theorem F1 (s:List UInt8) (i:Nat):dec s i=if rlen s i=0 then (65533,1) else (code s i,rlen s i):=by
 have hb:=Fr s i;unfold dec Utf8.decode;simp only [get_at,Nat.add_zero];have hsz:(⟨⟨s⟩⟩:ByteArray).size=s.length:=rfl;simp only [hsz,Bool.and_eq_true,beq_iff_eq,decide_eq_true_eq,Utf8.runeError,Jf4];unfold rlen code;simp only [J3];by_cases h1:at_ s i<128
 ·simp [h1]
 by_cases h2:at_ s i<224
 ·by_cases h2':i+1<s.length∧at_ s (i+1) / 64=2
  ·have e5:¬ 224≤at_ s i:=by omega
   have e6:¬ 240≤at_ s i:=by omega
   by_cases h194:194≤at_ s i
   ·have e1:at_ s i / 32=6:=by omega
    have e2:128≤at_ s i % 32 * 64+at_ s (i+1) % 64:=by omega
    simp [h1,h2,h2',h194,e1,e2]
   ·by_cases h192:192≤at_ s i
    ·have e1:at_ s i / 32=6:=by omega
     have e2:¬ 128≤at_ s i % 32 * 64+at_ s (i+1) % 64:=by omega
     simp [h1,h2,h2',h194,e1,e2,e5,e6]
    ·have e1:¬ at_ s i / 32=6:=by omega
     have e3:¬ at_ s i / 16=14:=by omega
     have e4:¬ at_ s i / 8=30:=by omega
     simp [h1,h2,h2',h194,e1,e3,e4,e5,e6]
  ·have e3:¬ at_ s i / 16=14:=by omega
   have e4:¬ at_ s i / 8=30:=by omega
   have e5:¬ 224≤at_ s i:=by omega
   have e6:¬ 240≤at_ s i:=by omega
   simp [h1,h2,h2',e3,e4,e5,e6]
 have e1:¬ at_ s i / 32=6:=by omega
 by_cases h3:at_ s i<240
 ·have e3:at_ s i / 16=14:=by omega
  have e4:¬ at_ s i / 8=30:=by omega
  have e5:224≤at_ s i:=by omega
  have e6:¬ 240≤at_ s i:=by omega
  by_cases c1:i+1<s.length∧at_ s (i+1) / 64=2
  ·by_cases c2:i+2<s.length∧at_ s (i+2) / 64=2
   ·by_cases hb2:(at_ s i=224∧at_ s (i+1)<160)∨(at_ s i=237∧160≤at_ s (i+1))
    ·have:¬ (2048≤at_ s i % 16 * 4096+at_ s (i+1) % 64 * 64+at_ s (i+2) % 64∧(at_ s i % 16 * 4096+at_ s (i+1) % 64 * 64+at_ s (i+2) % 64<55296∨57344≤at_ s i % 16 * 4096+at_ s (i+1) % 64 * 64+at_ s (i+2) % 64∧at_ s i % 16 * 4096+at_ s (i+1) % 64 * 64+at_ s (i+2) % 64≤1114111)):=by omega
     simp only [h1,h2,e1,e3,e5,h3,c1,c2,hb2,and_true,true_and,if_true,if_false,false_and,and_false,and_self,ge_iff_le,this]
    ·have:(2048≤at_ s i % 16 * 4096+at_ s (i+1) % 64 * 64+at_ s (i+2) % 64∧(at_ s i % 16 * 4096+at_ s (i+1) % 64 * 64+at_ s (i+2) % 64<55296∨57344≤at_ s i % 16 * 4096+at_ s (i+1) % 64 * 64+at_ s (i+2) % 64∧at_ s i % 16 * 4096+at_ s (i+1) % 64 * 64+at_ s (i+2) % 64≤1114111)):=by omega
     simp only [h1,h2,e1,e3,e5,h3,c1,c2,hb2,and_true,true_and,if_true,if_false,false_and,and_false,and_self,ge_iff_le,this];simp
   ·simp [h1,h2,e1,e3,e4,e5,e6,h3,c2]
  ·simp [h1,h2,e1,e3,e4,e5,e6,h3,c1]
 ·have e3:¬ at_ s i / 16=14:=by omega
  have e5:240≤at_ s i:=by omega
  by_cases h4:at_ s i<248
  ·have e4:at_ s i / 8=30:=by omega
   by_cases c1:i+1<s.length∧at_ s (i+1) / 64=2
   ·by_cases c2:i+2<s.length∧at_ s (i+2) / 64=2
    ·by_cases c3:i+3<s.length∧at_ s (i+3) / 64=2
     ·by_cases h5:at_ s i<245
      ·by_cases hb2:(at_ s i=240∧at_ s (i+1)<144)∨(at_ s i=244∧144≤at_ s (i+1))
       ·have:¬ (65536≤at_ s i % 8 * 262144+at_ s (i+1) % 64 * 4096+at_ s (i+2) % 64 * 64+at_ s (i+3) % 64∧(at_ s i % 8 * 262144+at_ s (i+1) % 64 * 4096+at_ s (i+2) % 64 * 64+at_ s (i+3) % 64<55296∨57344≤at_ s i % 8 * 262144+at_ s (i+1) % 64 * 4096+at_ s (i+2) % 64 * 64+at_ s (i+3) % 64∧at_ s i % 8 * 262144+at_ s (i+1) % 64 * 4096+at_ s (i+2) % 64 * 64+at_ s (i+3) % 64≤1114111)):=by omega
        simp only [h1,h2,h3,e1,e3,e4,e5,h5,c1,c2,c3,hb2,and_true,true_and,if_true,if_false,false_and,and_false,and_self,ge_iff_le,this]
       ·have:(65536≤at_ s i % 8 * 262144+at_ s (i+1) % 64 * 4096+at_ s (i+2) % 64 * 64+at_ s (i+3) % 64∧(at_ s i % 8 * 262144+at_ s (i+1) % 64 * 4096+at_ s (i+2) % 64 * 64+at_ s (i+3) % 64<55296∨57344≤at_ s i % 8 * 262144+at_ s (i+1) % 64 * 4096+at_ s (i+2) % 64 * 64+at_ s (i+3) % 64∧at_ s i % 8 * 262144+at_ s (i+1) % 64 * 4096+at_ s (i+2) % 64 * 64+at_ s (i+3) % 64≤1114111)):=by omega
        simp only [h1,h2,h3,e1,e3,e4,e5,h5,c1,c2,c3,hb2,and_true,true_and,if_true,if_false,false_and,and_false,and_self,ge_iff_le,this];simp
      ·have:¬ (65536≤at_ s i % 8 * 262144+at_ s (i+1) % 64 * 4096+at_ s (i+2) % 64 * 64+at_ s (i+3) % 64∧(at_ s i % 8 * 262144+at_ s (i+1) % 64 * 4096+at_ s (i+2) % 64 * 64+at_ s (i+3) % 64<55296∨57344≤at_ s i % 8 * 262144+at_ s (i+1) % 64 * 4096+at_ s (i+2) % 64 * 64+at_ s (i+3) % 64∧at_ s i % 8 * 262144+at_ s (i+1) % 64 * 4096+at_ s (i+2) % 64 * 64+at_ s (i+3) % 64≤1114111)):=by omega
       simp only [h1,h2,h3,e1,e3,e4,e5,h5,c1,c2,c3,and_true,true_and,if_true,if_false,false_and,and_false,and_self,ge_iff_le,this]
     ·simp [h1,h2,h3,e1,e3,e4,e5,c3]
    ·simp [h1,h2,h3,e1,e3,e4,e5,c2]
   ·simp [h1,h2,h3,e1,e3,e4,e5,c1]
  ·have e4:¬ at_ s i / 8=30:=by omega
   have h5:¬ at_ s i<245:=by omega
   simp [h1,h2,h3,e1,e3,e4,e5,h5]
theorem Ko (s:List UInt8) (i k:Nat):at_ (s.drop i) k=at_ s (i+k):=by
 simp [at_,List.getD_eq_getElem?_getD]
theorem Jx {a b:List UInt8} {k:Nat} (h:k<a.length):at_ (a ++ b) k=at_ a k:=by
 simp [at_,List.getD_eq_getElem?_getD,List.getElem?_append_left h]
theorem Ib {a b:List UInt8} {k:Nat} (h:a.length≤k):at_ (a ++ b) k=at_ b (k - a.length):=by
 simp [at_,List.getD_eq_getElem?_getD,List.getElem?_append_right h]
theorem Gu (c:UInt8) (s:List UInt8):at_ (c :: s) 0=c.toNat:=rfl
theorem Jk0 (c:UInt8) (s:List UInt8) (k:Nat):at_ (c :: s) (k+1)=at_ s k:=rfl
theorem at_out {s:List UInt8} {k:Nat} (h:s.length≤k):at_ s k=0:=by
 simp [at_,List.getD_eq_getElem?_getD,List.getElem?_eq_none h]
theorem Jov (s:List UInt8) (i k:Nat):ct (s.drop i) k=ct s (i+k):=by
 have:decide (k<(s.drop i).length)=decide (i+k<s.length):=by rw [List.length_drop];congr 1;apply propext;omega
 simp only [ct,Ko,this]
theorem Ny (s:List UInt8) (i k:Nat):rlen (s.drop i) k=rlen s (i+k):=by
 simp only [rlen,Ko,Jov,← Nat.add_assoc]
theorem Jhn (s:List UInt8) (i k:Nat):code (s.drop i) k=code s (i+k):=by
 simp only [code,Ko,← Nat.add_assoc]
theorem Qy (s:List UInt8) (i k:Nat):dec (s.drop i) k=dec s (i+k):=by
 simp only [F1,Ny,Jhn]
theorem M4 (s:List UInt8) (i:Nat) (h:i<s.length):i+rlen s i≤s.length:=by
 unfold rlen;simp only [J3]
 repeat' split
 all_goals omega
theorem Qv (s:List UInt8) (i:Nat):rlen s i≤4:=by
 unfold rlen
 repeat' split
 all_goals omega
theorem Pz (s:List UInt8) (k:Nat):u8of (at_ s k)=s.getD k 0:=by
 apply UInt8.toNat_inj.1;have:=Fr s k;have h:=B8 (c:=(at_ s k:Int)) omg omg;simp only [at_] at h ⊢;omega
theorem Je8 {s:List UInt8} {i:Nat} (n:Nat) (h:i+n≤s.length):(s.drop i).take n=(List.range n).map fun k=>s.getD (i+k) 0:=by
 apply List.ext_getElem?;intro j;rw [List.getElem?_take,List.getElem?_map];by_cases hj:j<n
 ·have hl:i+j<s.length:=by omega
  simp [hj,hl]
 ·simp [hj]
theorem Fd (s:List UInt8) (i:Nat):rlen s i=0∨(rlen s i=1∧at_ s i<128) ∨
  (rlen s i=2∧194≤at_ s i∧at_ s i<224∧at_ s (i+1) / 64=2) ∨
  (rlen s i=3∧224≤at_ s i∧at_ s i<240∧at_ s (i+1) / 64=2∧at_ s (i+2) / 64=2∧¬ (at_ s i=224∧at_ s (i+1)<160)∧¬ (at_ s i=237∧160≤at_ s (i+1))) ∨
  (rlen s i=4∧240≤at_ s i∧at_ s i<245∧at_ s (i+1) / 64=2∧at_ s (i+2) / 64=2∧at_ s (i+3) / 64=2∧¬ (at_ s i=240∧at_ s (i+1)<144)∧¬ (at_ s i=244∧144≤at_ s (i+1))):=by
 unfold rlen;simp only [J3]
 repeat' split
 all_goals omega
theorem H5 {s:List UInt8} {i:Nat} (h:rlen s i≠0) (hi:i<s.length):utf (code s i)=(s.drop i).take (rlen s i):=by
 have hle:=M4 s i hi;have h0:=Fr s i;have h1:=Fr s (i+1);have h2:=Fr s (i+2);have h3:=Fr s (i+3);rw [Je8 _ hle];rcases Fd s i with e | ⟨e,g1⟩ | ⟨e,g1,g2,g3⟩ | ⟨e,g1,g2,g3,g4,g5,g6⟩ | ⟨e,g1,g2,g3,g4,g5,g6,g7⟩
 ·exact absurd e h
 ·have ec:code s i=at_ s i:=by unfold code;rw [if_pos g1]
  rw [e,ec,utf,Nb omg];simp [List.range_succ,Pz]
 ·have ec:code s i=at_ s i % 32 * 64+at_ s (i+1) % 64:=by unfold code;rw [if_neg omg,if_pos omg]
  have l:utfC (code s i)=[(at_ s i:Int),(at_ s (i+1):Int)]:=by
   rw [Oc (by rw [ec];omega),ec];congr 1
   ·omega
   ·congr 1;omega
  rw [e,utf,l];simp [List.range_succ,Pz]
 ·have ec:code s i=at_ s i % 16 * 4096+at_ s (i+1) % 64 * 64+at_ s (i+2) % 64:=by unfold code;rw [if_neg omg,if_neg omg,if_pos omg]
  have l:utfC (code s i)=[(at_ s i:Int),(at_ s (i+1):Int),(at_ s (i+2):Int)]:=by
   rw [Nd (by rw [ec];omega),ec];congr 1
   ·omega
   ·congr 1
    ·omega
    ·congr 1;omega
  rw [e,utf,l];simp [List.range_succ,Pz]
 ·have ec:code s i=at_ s i % 8 * 262144+at_ s (i+1) % 64 * 4096+at_ s (i+2) % 64 * 64+at_ s (i+3) % 64:=by unfold code;rw [if_neg omg,if_neg omg,if_neg omg]
  have l:utfC (code s i)=[(at_ s i:Int),(at_ s (i+1):Int),(at_ s (i+2):Int),(at_ s (i+3):Int)]:=by
   rw [Nk (by rw [ec];omega),ec];congr 1
   ·omega
   ·congr 1
    ·omega
    ·congr 1
     ·omega
     ·congr 1;omega
  rw [e,utf,l];simp [List.range_succ,Pz]
def Cy (r:Int):Prop:=(0≤r∧r<55296)∨(57344≤r∧r≤1114111)
theorem Fm {s:List UInt8} {i:Nat} (h:rlen s i≠0):Cy (code s i):=by
 have h0:=Fr s i;unfold Cy;rcases Fd s i with e | ⟨e,g1⟩ | ⟨e,g1,g2,g3⟩ | ⟨e,g1,g2,g3,g4,g5,g6⟩ | ⟨e,g1,g2,g3,g4,g5,g6,g7⟩
 ·exact absurd e h
 ·have ec:code s i=at_ s i:=by unfold code;rw [if_pos g1]
  omega
 ·have ec:code s i=at_ s i % 32 * 64+at_ s (i+1) % 64:=by unfold code;rw [if_neg omg,if_pos omg]
  omega
 ·have ec:code s i=at_ s i % 16 * 4096+at_ s (i+1) % 64 * 64+at_ s (i+2) % 64:=by unfold code;rw [if_neg omg,if_neg omg,if_pos omg]
  omega
 ·have ec:code s i=at_ s i % 8 * 262144+at_ s (i+1) % 64 * 4096+at_ s (i+2) % 64 * 64+at_ s (i+3) % 64:=by unfold code;rw [if_neg omg,if_neg omg,if_neg omg]
  omega
theorem Rp {r:Int} (h:Cy r) (t:List UInt8):rlen (utf r ++ t) 0=(utf r).length∧(code (utf r ++ t) 0:Int)=r:=by
 unfold Cy at h;by_cases c1:r<128
 ·have e:=Nb (r:=r) omg;have a0:=B8 (c:=r) omg omg;simp only [utf,e,List.map_cons,List.map_nil,List.cons_append,List.nil_append,List.length_cons,List.length_nil];have e0:at_ (u8of r :: t) 0=(u8of r).toNat:=rfl;unfold rlen code;rw [if_pos (by rw [e0];omega),if_pos (by rw [e0];omega),e0];exact ⟨rfl,a0⟩
 by_cases c2:r<2048
 ·have e:=Oc (r:=r) omg;have a0:=B8 (c:=192+r / 64) omg omg;have a1:=B8 (c:=128+r % 64) omg omg;simp only [utf,e,List.map_cons,List.map_nil,List.cons_append,List.nil_append,List.length_cons,List.length_nil];generalize hs:u8of (192+r / 64) :: u8of (128+r % 64) :: t=s;have e0:at_ s 0=(u8of (192+r / 64)).toNat:=by rw [← hs];rfl
  have e1:at_ s 1=(u8of (128+r % 64)).toNat:=by rw [← hs];rfl
  have hl:1<s.length:=by rw [← hs];simp
  unfold rlen code;simp only [J3,Nat.zero_add];rw [if_neg omg,if_pos omg,if_neg omg,if_pos omg];exact ⟨rfl,by omega⟩
 by_cases c3:r<65536
 ·have e:=Nd (r:=r) omg;have a0:=B8 (c:=224+r / 4096) omg omg;have a1:=B8 (c:=128+r / 64 % 64) omg omg;have a2:=B8 (c:=128+r % 64) omg omg;simp only [utf,e,List.map_cons,List.map_nil,List.cons_append,List.nil_append,List.length_cons,List.length_nil];generalize hs:u8of (224+r / 4096) :: u8of (128+r / 64 % 64) :: u8of (128+r % 64) :: t=s;have e0:at_ s 0=(u8of (224+r / 4096)).toNat:=by rw [← hs];rfl
  have e1:at_ s 1=(u8of (128+r / 64 % 64)).toNat:=by rw [← hs];rfl
  have e2:at_ s 2=(u8of (128+r % 64)).toNat:=by rw [← hs];rfl
  have hl:2<s.length:=by rw [← hs];simp
  unfold rlen code;simp only [J3,Nat.zero_add];rw [if_neg omg,if_neg omg,if_pos omg,if_neg omg,if_neg omg,if_neg omg,if_pos omg];exact ⟨rfl,by omega⟩
 ·have e:=Nk (r:=r) omg;have a0:=B8 (c:=240+r / 262144) omg omg;have a1:=B8 (c:=128+r / 4096 % 64) omg omg;have a2:=B8 (c:=128+r / 64 % 64) omg omg;have a3:=B8 (c:=128+r % 64) omg omg;simp only [utf,e,List.map_cons,List.map_nil,List.cons_append,List.nil_append,List.length_cons,List.length_nil];generalize hs:u8of (240+r / 262144) :: u8of (128+r / 4096 % 64) :: u8of (128+r / 64 % 64) :: u8of (128+r % 64) :: t=s;have e0:at_ s 0=(u8of (240+r / 262144)).toNat:=by rw [← hs];rfl
  have e1:at_ s 1=(u8of (128+r / 4096 % 64)).toNat:=by rw [← hs];rfl
  have e2:at_ s 2=(u8of (128+r / 64 % 64)).toNat:=by rw [← hs];rfl
  have e3:at_ s 3=(u8of (128+r % 64)).toNat:=by rw [← hs];rfl
  have hl:3<s.length:=by rw [← hs];simp
  unfold rlen code;simp only [J3,Nat.zero_add];rw [if_neg omg,if_neg omg,if_neg omg,if_pos omg,if_neg omg,if_neg omg,if_neg omg,if_neg omg];exact ⟨rfl,by omega⟩
end Go.LX
