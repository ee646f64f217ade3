/- strings.Builder, unicode/utf8.AppendRune. -/
import Derived.Test.YtpdaccjebbbbaaaDoorLxM
import Derived.Test.YtpdaccjebbbbaaaDoorLxL
import Derived.Test.YtpdaccjebbbbaaaDoorLxK
import Derived.Lib.TrimU
import Derived.Lib.IndexAny
import Derived.Lib.AtoiAll
import Derived.Lib.ValidLaws
set_option linter.unusedSimpArgs false
set_option linter.unusedVariables false
set_option linter.unusedSectionVars false
set_option linter.unnecessarySimpa false
set_option maxRecDepth 100000
set_option maxHeartbeats 2000000
namespace Go.LX
open Go Go.RowKit Go.Proofs
attribute [local irreducible] Al SWP Bi
theorem Jag (a:L):Ag cx 59 [a] a:=by
 intro β Im w vs hl ha
 match vs,hl with
 | [v],_ =>
  refine ⟨v,?_,ha 0 v a rfl rfl⟩;show (callFunc 59 #[v]).run Tryd.prog w=_;rw [run_callFunc_extern Tryd.func59 kr kr kr (e:=Extern.AbiNoEscape.same) kr,Lib.run_noEscape];rfl
theorem f_lies:liesAt Tryd.prog Tryd.prog.depth 57 1 0 57 1=true:=kr
def bstr (s:List UInt8):List (List PV):=s.map fun c=>[.int .u8 c.toNat]
theorem Di (s:List UInt8):(bstr s).length=s.length:=by simp [bstr]
theorem Jhm (c:UInt8) (s:List UInt8):bstr (c :: s)=[.int .u8 c.toNat] :: bstr s:=(rfl)
theorem Gz (a b:List UInt8):bstr (a ++ b)=bstr a ++ bstr b:=by simp [bstr]
theorem X6 (a:List UInt8):∀ q∈bstr a,q.length=1:=by simp [bstr]
theorem Rz:∀ s:List UInt8,Cw (bstr s)=some s
 | []=>rfl
 | c :: s=>by
  rw [Jhm,My,Rz s];have:=c.toNat_lt;simp only [Rr];rw [if_pos omg];simp
theorem Ox {s:List UInt8} {C:List UInt8→Prop}:Bq (Cw (bstr s)) C=C s:=by rw [Rz,Q9]
theorem K8 (x:Int) (h0:0≤x) (h1:x<32):IntKind.u8.wrap (BitVec.ofInt (B0 .u8) 192 ||| BitVec.ofInt (B0 .u8) x).toNat=192+x:=by
 obtain ⟨n,rfl⟩:=Int.eq_ofNat_of_zero_le h0;have:n<32:=by omega
 have key:∀ m:Fin 32,IntKind.u8.wrap (BitVec.ofInt (B0 .u8) 192 ||| BitVec.ofInt (B0 .u8) (m.val:Int)).toNat=192+(m.val:Int):=by decide
 exact key ⟨n,this⟩
theorem K5 (x:Int) (h0:0≤x) (h1:x<16):IntKind.u8.wrap (BitVec.ofInt (B0 .u8) 224 ||| BitVec.ofInt (B0 .u8) x).toNat=224+x:=by
 obtain ⟨n,rfl⟩:=Int.eq_ofNat_of_zero_le h0;have key:∀ m:Fin 16,IntKind.u8.wrap (BitVec.ofInt (B0 .u8) 224 ||| BitVec.ofInt (B0 .u8) (m.val:Int)).toNat=224+(m.val:Int):=by decide
 exact key ⟨n,by omega⟩
theorem La (x:Int) (h0:0≤x) (h1:x<8):IntKind.u8.wrap (BitVec.ofInt (B0 .u8) 240 ||| BitVec.ofInt (B0 .u8) x).toNat=240+x:=by
 obtain ⟨n,rfl⟩:=Int.eq_ofNat_of_zero_le h0;have key:∀ m:Fin 8,IntKind.u8.wrap (BitVec.ofInt (B0 .u8) 240 ||| BitVec.ofInt (B0 .u8) (m.val:Int)).toNat=240+(m.val:Int):=by decide
 exact key ⟨n,by omega⟩
theorem K0 (x:Int) (h0:0≤x) (h1:x<64):IntKind.u8.wrap (BitVec.ofInt (B0 .u8) 128 ||| BitVec.ofInt (B0 .u8) x).toNat=128+x:=by
 obtain ⟨n,rfl⟩:=Int.eq_ofNat_of_zero_le h0;have key:∀ m:Fin 64,IntKind.u8.wrap (BitVec.ofInt (B0 .u8) 128 ||| BitVec.ofInt (B0 .u8) (m.val:Int)).toNat=128+(m.val:Int):=by decide
 exact key ⟨n,by omega⟩
theorem K1 (x:Int) (h0:0≤x) (h1:x<256):IntKind.u8.wrap (BitVec.ofInt (B0 .u8) x &&& BitVec.ofInt (B0 .u8) 63).toNat=x % 64:=by
 obtain ⟨n,rfl⟩:=Int.eq_ofNat_of_zero_le h0;have key:∀ m:Fin 256,IntKind.u8.wrap (BitVec.ofInt (B0 .u8) (m.val:Int) &&& BitVec.ofInt (B0 .u8) 63).toNat=(m.val:Int) % 64:=by decide
 exact key ⟨n,by omega⟩
theorem fd6 (r:Int):r.fdiv (2 ^ min 6 (B0 .i32))=r / 64:=by
 rw [Int.fdiv_eq_ediv_of_nonneg _ de];rfl
theorem fd12 (r:Int):r.fdiv (2 ^ min 12 (B0 .i32))=r / 4096:=by
 rw [Int.fdiv_eq_ediv_of_nonneg _ de];rfl
theorem fd18 (r:Int):r.fdiv (2 ^ min 18 (B0 .i32))=r / 262144:=by
 rw [Int.fdiv_eq_ediv_of_nonneg _ de];rfl
def utfC (r:Int):List Int :=
 if 0≤r∧r<128 then [r]
 else if 0≤r∧r<2048 then [192+r / 64,128+r % 64]
 else if (0≤r∧r<55296)∨(57343<r∧r<65536) then [224+r / 4096,128+r / 64 % 64,128+r % 64]
 else if 65536≤r∧r≤1114111 then [240+r / 262144,128+r / 4096 % 64,128+r / 64 % 64,128+r % 64]
 else [239,191,189]
theorem Nb {r:Int} (h:0≤r∧r<128):utfC r=[r]:=if_pos h
theorem Oc {r:Int} (h:128≤r∧r<2048):utfC r=[192+r / 64,128+r % 64]:=by unfold utfC;rw [if_neg omg,if_pos omg]
theorem Nd {r:Int} (h:(2048≤r∧r<55296)∨(57343<r∧r<65536)):utfC r=[224+r / 4096,128+r / 64 % 64,128+r % 64]:=by unfold utfC;rw [if_neg omg,if_neg omg,if_pos omg]
theorem Nk {r:Int} (h:65536≤r∧r≤1114111):utfC r=[240+r / 262144,128+r / 4096 % 64,128+r / 64 % 64,128+r % 64]:=by unfold utfC;rw [if_neg omg,if_neg omg,if_neg omg,if_pos omg]
theorem Wq {r:Int} (h:¬ (0≤r∧r<55296)∧¬ (57343<r∧r≤1114111)):utfC r=[239,191,189]:=by unfold utfC;rw [if_neg omg,if_neg omg,if_neg omg,if_neg omg]
def utf (r:Int):List UInt8:=(utfC r).map u8of
theorem Jnr (r:Int):∀ c∈utfC r,0≤c∧c<256:=by
 unfold utfC;split
 ·simp;omega
 split
 ·simp;omega
 split
 ·simp;omega
 split
 ·simp;omega
 ·simp
theorem B8 {c:Int} (h0:0≤c) (h1:c<256):((u8of c).toNat:Int)=c:=by
 unfold u8of;simp;omega
theorem Em (r:Int):bstr (utf r)=(utfC r).map fun c=>[PV.int .u8 c]:=by
 simp only [bstr,utf,List.map_map];apply List.map_congr_left;intro c hc;obtain ⟨h0,h1⟩:=Jnr r c hc;simp [B8 h0 h1]
theorem D6 (r:Int):(utf r).length=(utfC r).length:=by simp [utf]
theorem Od (r:Int):(utf r).length≤4:=by
 rw [D6];unfold utfC
 repeat' split
 all_goals simp
theorem Cm:Det cx 50 [.ptr 1000 0 0] [(1000,.var 57 [.p .nptr,.p .snil])] (.tup []) [(1000,.var 57 [.ptr 1000 0 0,.p .snil])]:=by
 (refine bgo Tryd.func50 ?_;simp only [go_sem,simprocAttr]);(repeat' (first | ((refine Jwa (Jag _) ?_);simp only [go_sem,simprocAttr]) | fail));exact f_lies
theorem Ct (es:List (List PV)) (n:Nat):Det cx 50 [.ptr 1000 0 0] [(500001,.row 5 1 es),(1000,.var 57 [.ptr 1000 0 0,.own 500001 0 n])] (.tup []) [(500001,.row 5 1 es),(1000,.var 57 [.ptr 1000 0 0,.own 500001 0 n])]:=by
 (refine bgo Tryd.func50 ?_;simp only [go_sem,simprocAttr])
theorem Hc (c:Int):Det cx 53 [.ptr 1000 0 0,.p (.int .u8 c)] [(1000,.var 57 [.p .nptr,.p .snil])] (.p .nifc) [(900,.row 5 1 [[.int .u8 c]]),(1000,.var 57 [.ptr 1000 0 0,.own 900 0 1])]:=by
 (refine bgoR false [(14,900)] Tryd.func53 ?_;simp only [go_sem,simprocAttr]);(repeat' (first | ((refine Jqa (Cm) ?_);simp only [go_sem,simprocAttr]) | fail));simp
theorem Eb (c:Int) (es:List (List PV)) (n:Nat) (h:es.length=n) (hn:n≤1000000000):Det cx 53 [.ptr 1000 0 0,.p (.int .u8 c)] [(500001,.row 5 1 es),(1000,.var 57 [.ptr 1000 0 0,.own 500001 0 n])] (.p .nifc) [(500001,.row 5 1 (es ++ [[.int .u8 c]])),(1000,.var 57 [.ptr 1000 0 0,.own 500001 0 (n+1)])]:=by
 (refine bgoR false [(14,500001)] Tryd.func53 ?_;simp only [go_sem,simprocAttr]);(repeat' (first | ((refine Jqa (Ct _ _) ?_);simp only [go_sem,simprocAttr]) | fail));simp;omega
theorem Bx (s:List UInt8) (es:List (List PV)) (n:Nat) (h:es.length=n) (hn:n≤1000000000) (hs:s.length≤1000000000):Det cx 41 [.ptr 1000 0 0,.p (.str s)] [(500001,.row 5 1 es),(1000,.var 57 [.ptr 1000 0 0,.own 500001 0 n])] (.tup [.int .i64 s.length,.nifc]) [(500001,.row 5 1 (es ++ bstr s)),(1000,.var 57 [.ptr 1000 0 0,.own 500001 0 (n+s.length)])]:=by
 (refine bgoR false [(14,500001)] Tryd.func41 ?_;simp only [go_sem,simprocAttr]);(repeat' (first | ((refine Jqa (Ct _ _) ?_);simp only [go_sem,simprocAttr]) | fail));exact ⟨X6 s,h,by omega,by omega,rfl⟩
theorem En (r:Int) (es:List (List PV)) (n:Nat) (hl:es.length=n) (hn:n≤1000000000) (hr:¬ (0≤r∧r<128)) (h1:-2147483648≤r) (h2:r≤2147483647):Det cx 74 [.own 1000 0 n,.p (.int .i32 r)] [(1000,.row 5 1 es)] (.own 900 0 (n+(utf r).length)) [(900,.row 5 1 (es ++ bstr (utf r)))]:=by
 (refine bgoR true [(10,900),(24,900),(49,900),(77,900)] Tryd.func74 ?_;simp only [go_sem,simprocAttr]);(repeat' (first | (apply iteI <;> intro h)|(refine Jqs ?_)|(exfalso;omega)))
 all_goals simp only [Ec] at *
 all_goals first | (have e:=Oc (r:=r) omg;refine ⟨by simp,(by first | assumption | omega),by omega,by omega,by rw [D6,e];rfl,?_⟩;rw [Em,e];(try simp (disch:=omega) only [fd6,fd12,fd18,Be r,Be (r / 64),Be (r / 4096),Be (r / 262144),K1,K8,K0,K5,La]);simp;(try omega);done)|(have e:=Nd (r:=r) omg;refine ⟨by simp,(by first | assumption | omega),by omega,by omega,by rw [D6,e];rfl,?_⟩;rw [Em,e];(try simp (disch:=omega) only [fd6,fd12,fd18,Be r,Be (r / 64),Be (r / 4096),Be (r / 262144),K1,K8,K0,K5,La]);simp;(try omega);done)|(have e:=Nk (r:=r) omg;refine ⟨by simp,(by first | assumption | omega),by omega,by omega,by rw [D6,e];rfl,?_⟩;rw [Em,e];(try simp (disch:=omega) only [fd6,fd12,fd18,Be r,Be (r / 64),Be (r / 4096),Be (r / 262144),K1,K8,K0,K5,La]);simp;(try omega);done)|(have e:=Wq (r:=r) omg;refine ⟨by simp,(by first | assumption | omega),by omega,by omega,by rw [D6,e];rfl,?_⟩;rw [Em,e];(try simp (disch:=omega) only [fd6,fd12,fd18,Be r,Be (r / 64),Be (r / 4096),Be (r / 262144),K1,K8,K0,K5,La]);simp;(try omega);done)
theorem H7 (r:Int) (es:List (List PV)) (n:Nat) (hl:es.length=n) (hn:n≤1000000000) (h1:-2147483648≤r) (h2:r≤2147483647):Det cx 65 [.own 1000 0 n,.p (.int .i32 r)] [(1000,.row 5 1 es)] (.own 900 0 (n+(utf r).length)) [(900,.row 5 1 (es ++ bstr (utf r)))]:=by
 (refine bgoR true [(12,900),(15,900)] Tryd.func65 ?_;simp only [go_sem,simprocAttr]);(repeat' (first | (apply iteI <;> intro h)|((refine Jqa (En r es n hl hn (by simp only [Ec] at *;omega) h1 h2) ?_);simp only [go_sem,simprocAttr]) | fail))
 all_goals simp only [Ec] at *
 ·have e:=Nb (r:=r) omg;refine ⟨by simp,(by first | assumption | omega),by omega,by omega,by rw [D6,e];rfl,?_⟩;rw [Em,e];(try simp (disch:=omega) only [fd6,fd12,fd18,Be r,Be (r / 64),Be (r / 4096),Be (r / 262144),K1,K8,K0,K5,La]);simp;(try omega)
theorem Ed (r:Int) (es:List (List PV)) (n:Nat) (hl:es.length=n) (hn:n≤1000000000) (h1:-2147483648≤r) (h2:r≤2147483647):Det cx 55 [.ptr 1000 0 0,.p (.int .i32 r)] [(500001,.row 5 1 es),(1000,.var 57 [.ptr 1000 0 0,.own 500001 0 n])] (.tup [.int .i64 (utf r).length,.nifc]) [(500001,.row 5 1 (es ++ bstr (utf r))),(1000,.var 57 [.ptr 1000 0 0,.own 500001 0 (n+(utf r).length)])]:=by
 (refine bgoR false [(20,500001)] Tryd.func55 ?_;simp only [go_sem,simprocAttr]);(repeat' (first | ((first | (refine Jqa (Ct _ _) ?_)|(refine Jqa (H7 r es n hl hn h1 h2) ?_));simp only [go_sem,simprocAttr]) | fail));have:=Od r;simp (disch:=omega) only [Aa]
 (try simp);(try omega)
theorem Eo (s:List UInt8) (n:Nat) (hn:s.length=n) (h1:n≤1000000000) (h0:n≠0):Det cx 33 [.ptr 1000 0 0] [(500001,.row 5 1 (bstr s)),(1000,.var 57 [.ptr 1000 0 0,.own 500001 0 n])] (.p (.str s)) [(1000,.var 57 [.ptr 1000 0 0,.junk])]:=by
 (refine bgo Tryd.func33 ?_;simp only [go_sem,simprocAttr]);(refine Gi 10 hm kr kr ?_;simp only [go_sem,simprocAttr,Ox]);have h2:s≠[]:=fun h=>by subst h;exact h0 (by rw [← hn];rfl)
 simp [hn,h2];omega
def A8 (name:List UInt8):List (List UInt8×Tree)→List (List UInt8×Tree)
 | []=>[]
 | p :: l=>if p.1=name then A8 name l else p :: A8 name l
theorem Cs (v:List Node) (i:Nat) (nm:List UInt8) (t:Tree) (rest:List Node) (hv:v.length≤1000000) (h:v.drop i=t.enc nm ++ rest):Det cx 37 [.p (.sl (valL v)),.p (.int .i64 i)] [] (.p (.int .i64 (i+(t.enc nm).length:Nat))) []:=by
 (refine bgo Tryd.func37 ?_;simp only [go_sem,simprocAttr]);have hp:=Et t nm;have hb:=L9 h (fun e=>by have e2:(t.enc nm ++ rest).length=0:=(by rw [e];rfl);rw [List.length_append] at e2;omega);rw [List.length_append] at hb;refine SWP.loop (fun x:Nat×Nat×Forest=>⟨Ba 41 [(0,.p (.sl (valL v))),(1,.p (.int .i64 x.1)),(5,.p (.int .i64 x.2.1))],[]⟩) (fun x=>x.2.1=x.2.2.len∧v.drop x.1=x.2.2.enc ++ rest∧x.1+x.2.2.enc.length=i+(t.enc nm).length) (fun x=>x.2.2.enc.length) (i,1,.cons nm t .nil) Jqd ⟨rfl,by simp [A0,Bl,h],by simp [A0,Bl]⟩ ?_;rintro ⟨j,left,F⟩ ⟨h0,h1,h2⟩;simp only at h0 h1 h2
 match F,h0,h1,h2 with
 | .nil,h0,h1,h2 =>
  rw [Bl] at h2;simp only [Forest.len] at h0;subst h0;(refine lws ?_;simp only [go_sem,simprocAttr]);simp only [List.length_nil] at h2;omega
 | .cons nm' (.mk k s g e kids) r,h0,h1,h2 =>
  rw [F2] at h0;rw [A0,A6] at h1 h2;have hg:=D5 h1;rw [C9] at hg;simp only [List.length_cons,List.length_append] at h2;have hl1:=Jqz kids;have hl2:=Jqz r;have w0:IntKind.i64.wrap ((left:Int) - 1)=(r.len:Int):=by rw [Aa omg omg];omega
  have w1:IntKind.i64.wrap ((r.len:Int)+(kids.len:Int))=((r.len+kids.len:Nat):Int):=by rw [Aa omg omg];omega
  (refine lws ?_;simp only [go_sem,simprocAttr,wj1 (i:=j) omg,hg,w0,w1,A7]);(repeat' (first | (apply iteI <;> intro h)|(exfalso;omega)))
  ·exact ⟨(j+1,r.len+kids.len,kids.app r),⟨by simp only [Jq0];omega,by
    simp only [Jql];rw [← List.drop_drop,h1];simp,by simp only [Jql,List.length_append];omega⟩,by simp only [Jql,A0,A6,List.length_append,List.length_cons];omega,Jqd⟩
theorem Mi {v:List Node} {j:Nat} {nm:List UInt8} {t:Tree} {b:List Node} (h:v.drop j=t.enc nm ++ b):∃ k n s g e,(valL v)[j]? = some [.int .i64 k,.int .i64 n,.str nm,.str s,.bool g,.int .i64 e]:=by
 cases t with
 | mk k s g e kids =>
  rw [A6] at h;exact ⟨k,kids.len,s,g,e,D5 h⟩
def unn (l:List (List UInt8×Tree)):List (List UInt8×Tree):=l.map fun p=>([],p.2)
theorem d_tz:Det cx 80 [.p (.int .u64 16)] [] (.p (.int .i64 4)) []:=by
 refine Jr5 (v:=.int .i64 4) (enters_of Tryd.func80 kr rfl) rfl (fun _ _ _=>.int _ _) fun β Im w vs hg hf=>?_
 obtain ⟨v,rfl,hv⟩:=fit1 hf;have:=Mz hv;subst this;have hc:Lib.ctz 64 16=4:=by decide
 refine (Any7.bits_TrailingZeros Jw4 16 de w (fun _=>(Jbj hg).tz)).mono fun e w' ⟨he,hw⟩=>?_
 subst hw;rw [hc] at he;exact ⟨he,Below.refl _ _⟩
theorem Rj:Det cx 79 [.p (.int .i64 16)] [] (.p (.bool true)) []:=by
 (refine bgo Tryd.func79 ?_;simp only [go_sem,simprocAttr]);decide
theorem f_z133:Bu Tryd.prog 114=some [.int .u8 0,.int .u8 0,.int .u8 0,.int .u8 0,.int .u8 0,.int .u8 0,.int .u8 0,.int .u8 0,.int .u8 0,.int .u8 0,.int .u8 0,.int .u8 0,.int .u8 0,.int .u8 0,.int .u8 0,.int .u8 0,.int .u8 0,.int .u8 0,.int .u8 0,.int .u8 0,.int .u8 0,.int .u8 0,.int .u8 0,.int .u8 0,.int .u8 0,.int .u8 0,.int .u8 0,.int .u8 0,.int .u8 0,.int .u8 0,.int .u8 0,.int .u8 0,.int .u8 0,.int .u8 0,.int .u8 0,.int .u8 0,.int .u8 0,.int .u8 0,.int .u8 0,.int .u8 0,.int .u8 0,.int .u8 0,.int .u8 0,.int .u8 0,.int .u8 0,.int .u8 0,.int .u8 0,.int .u8 0,.int .u8 0,.int .u8 0,.int .u8 0,.int .u8 0,.int .u8 0,.int .u8 0,.int .u8 0,.int .u8 0,.int .u8 0,.int .u8 0,.int .u8 0,.int .u8 0,.int .u8 0,.int .u8 0,.int .u8 0,.int .u8 0,.int .u8 0]:=kr
theorem wc1:IntKind.u64.wrap 16=16:=by decide
theorem wc2:IntKind.u64.wrap 15=15:=by decide
theorem wc3:IntKind.u64.wrap 4=4:=by decide
theorem wc4:IntKind.i64.wrap 64=64:=by decide
theorem wc5:IntKind.i64.wrap 63=63:=by decide
theorem wc6:IntKind.i64.wrap 62=62:=by decide
theorem Jjm (x:Nat):IntKind.u64.wrap (BitVec.ofInt (B0 .u64) (x:Int) &&& BitVec.ofInt (B0 .u64) 15).toNat=((x % 16:Nat):Int):=by
 have e:(BitVec.ofInt (B0 .u64) (x:Int) &&& BitVec.ofInt (B0 .u64) 15).toNat=x % 16:=by
  show (BitVec.ofInt 64 (x:Int) &&& BitVec.ofInt 64 15).toNat=x % 16;rw [BitVec.toNat_and,show (BitVec.ofInt 64 15).toNat=2 ^ 4 - 1 by decide,Nat.and_two_pow_sub_one_eq_mod];simp
 rw [e,Mf omg omg]
theorem fd4 (x:Nat):(x:Int).fdiv (2 ^ min 4 (B0 .u64))=((x / 16:Nat):Int):=by
 rw [Int.fdiv_eq_ediv_of_nonneg _ de];simp [B0,IntKind.bits]
def hexds:List UInt8:=[48,49,50,51,52,53,54,55,56,57,97,98,99,100,101,102,103,104,105,106,107,108,109,110,111,112,113,114,115,116,117,118,119,120,121,122]
def hexd (n:Nat):UInt8:=hexds.getD n 0
theorem Mj (u:Nat) (h1:256≤u) (h2:u<4096):Det cx 73 [.p .snil,.p (.int .u64 u),.p (.int .i64 16),.p (.bool false),.p (.bool false)] [] (.tup [.snil,.str [hexd (u / 16 / 16),hexd (u / 16 % 16),hexd (u % 16)]]) []:=by
 (refine bgo Tryd.func73 ?_;simp only [go_sem,simprocAttr,f_z133]);(repeat' (first | ((first | (refine Jqa (d_tz) ?_)|(refine Jqa (Rj) ?_));simp only [go_sem,simprocAttr,wc1,wc2,wc3]) | fail));(refine SWP.rounds 4 ?_;refine Jwd hm ?_;simp only [go_sem,simprocAttr,wc4,Jjm,fd4]);(repeat' (first | (apply iteI <;> intro h)|(refine Jqs ?_)|(refine Jwd hm ?_;simp only [go_sem,simprocAttr,wc5,wc6,Jjm,fd4])|(exfalso;omega)));exact ⟨rfl,rfl,rfl⟩
def hex3 (u:Nat):List UInt8:=[hexd (u / 16 / 16),hexd (u / 16 % 16),hexd (u % 16)]
theorem wcn {u:Nat} (h:u<4096):IntKind.u64.wrap (u:Int)=u:=Mf omg omg
theorem Ke (u:Nat) (h1:256≤u) (h2:u<4096):Det cx 64 [.p (.int .i64 u),.p (.int .i64 16)] [] (.p (.str (hex3 u))) []:=by
 (refine bgo Tryd.func64 ?_;simp only [go_sem,simprocAttr,wcn h2]);(repeat' (first | ((refine Jqa (Mj u h1 h2) ?_);simp only [go_sem,simprocAttr,wcn h2]) | fail));rfl
theorem Ph (u:Nat) (h1:256≤u) (h2:u<4096):Det cx 54 [.p (.int .i64 u),.p (.int .i64 16)] [] (.p (.str (hex3 u))) []:=by
 (refine bgo Tryd.func54 ?_;simp only [go_sem,simprocAttr]);(repeat' (first | ((refine Jqa (Ke u h1 h2) ?_);simp only [go_sem,simprocAttr]) | fail))
def low (c:Nat):Nat:=if c / 32 % 2=1 then c else c+32
def hexv (c:Nat):Option Nat:=if 48≤c∧c≤57 then some (c - 48) else if 97≤c∧c≤102 then some (c - 87) else if 65≤c∧c≤70 then some (c - 55) else none
def hexN:List UInt8→Nat→Option Nat
 | [],a=>some a
 | c :: s,a=>match hexv c.toNat with
  | some d=>hexN s (a * 16+d)
  | none=>none
end Go.LX
namespace Go.LX
open Go
def dec (s:List UInt8) (i:Nat):Nat×Nat:=Utf8.decode ⟨⟨s⟩⟩ i
def ct (s:List UInt8) (k:Nat):Bool:=decide (k<s.length) && (decide (128≤at_ s k) && decide (at_ s k<192))
def rlen (s:List UInt8) (i:Nat):Nat :=
 if at_ s i<128 then 1
 else if 194≤at_ s i∧at_ s i<224∧ct s (i+1)=true then 2
 else if 224≤at_ s i∧at_ s i<240∧ct s (i+1)=true∧ct s (i+2)=true then
  (if (at_ s i=224∧at_ s (i+1)<160)∨(at_ s i=237∧160≤at_ s (i+1)) then 0 else 3)
 else if 240≤at_ s i∧at_ s i<245∧ct s (i+1)=true∧ct s (i+2)=true∧ct s (i+3)=true then
  (if (at_ s i=240∧at_ s (i+1)<144)∨(at_ s i=244∧144≤at_ s (i+1)) then 0 else 4)
 else 0
def code (s:List UInt8) (i:Nat):Nat :=
 if at_ s i<128 then at_ s i
 else if at_ s i<224 then at_ s i % 32 * 64+at_ s (i+1) % 64
 else if at_ s i<240 then at_ s i % 16 * 4096+at_ s (i+1) % 64 * 64+at_ s (i+2) % 64
 else at_ s i % 8 * 262144+at_ s (i+1) % 64 * 4096+at_ s (i+2) % 64 * 64+at_ s (i+3) % 64
theorem get_at (s:List UInt8) (k:Nat):((⟨⟨s⟩⟩:ByteArray).get! k).toNat=at_ s k:=by
 simp only [ByteArray.get!,at_,List.getD_eq_getElem?_getD];by_cases h:k<s.length
 ·simp [h]
 ·simp [h];rfl
theorem J3 {s:List UInt8} {k:Nat}:ct s k=true ↔ k<s.length∧at_ s k / 64=2:=by
 simp only [ct,Bool.and_eq_true,decide_eq_true_eq];omega
theorem Jf4 (c:Nat):Utf8.valid (c:Int)=true ↔ c<55296∨(57344≤c∧c≤1114111):=by
 simp only [Utf8.valid,Bool.or_eq_true,Bool.and_eq_true,decide_eq_true_eq];omega
theorem F1 (s:List UInt8) (i:Nat):dec s i=if rlen s i=0 then (65533,1) else (code s i,rlen s i):=by
 have hb:=Fr s i;unfold dec Utf8.decode;simp only [get_at,Nat.add_zero];have hsz:(⟨⟨s⟩⟩:ByteArray).size=s.length:=rfl;simp only [hsz,Bool.and_eq_true,beq_iff_eq,decide_eq_true_eq,Utf8.runeError,Jf4];unfold rlen code;simp only [J3];by_cases h1:at_ s i<128
 ·simp [h1]
 by_cases h2:at_ s i<224
 ·by_cases h2':i+1<s.length∧at_ s (i+1) / 64=2
  ·have e5:¬ 224≤at_ s i:=by omega
   have e6:¬ 240≤at_ s i:=by omega
   by_cases h194:194≤at_ s i
   ·have e1:at_ s i / 32=6:=by omega
    have e2:128≤at_ s i % 32 * 64+at_ s (i+1) % 64:=by omega
    simp [h1,h2,h2',h194,e1,e2]
   ·by_cases h192:192≤at_ s i
    ·have e1:at_ s i / 32=6:=by omega
     have e2:¬ 128≤at_ s i % 32 * 64+at_ s (i+1) % 64:=by omega
     simp [h1,h2,h2',h194,e1,e2,e5,e6]
    ·have e1:¬ at_ s i / 32=6:=by omega
     have e3:¬ at_ s i / 16=14:=by omega
     have e4:¬ at_ s i / 8=30:=by omega
     simp [h1,h2,h2',h194,e1,e3,e4,e5,e6]
  ·have e3:¬ at_ s i / 16=14:=by omega
   have e4:¬ at_ s i / 8=30:=by omega
   have e5:¬ 224≤at_ s i:=by omega
   have e6:¬ 240≤at_ s i:=by omega
   simp [h1,h2,h2',e3,e4,e5,e6]
 have e1:¬ at_ s i / 32=6:=by omega
 by_cases h3:at_ s i<240
 ·have e3:at_ s i / 16=14:=by omega
  have e4:¬ at_ s i / 8=30:=by omega
  have e5:224≤at_ s i:=by omega
  have e6:¬ 240≤at_ s i:=by omega
  by_cases c1:i+1<s.length∧at_ s (i+1) / 64=2
  ·by_cases c2:i+2<s.length∧at_ s (i+2) / 64=2
   ·by_cases hb2:(at_ s i=224∧at_ s (i+1)<160)∨(at_ s i=237∧160≤at_ s (i+1))
    ·have:¬ (2048≤at_ s i % 16 * 4096+at_ s (i+1) % 64 * 64+at_ s (i+2) % 64∧(at_ s i % 16 * 4096+at_ s (i+1) % 64 * 64+at_ s (i+2) % 64<55296∨57344≤at_ s i % 16 * 4096+at_ s (i+1) % 64 * 64+at_ s (i+2) % 64∧at_ s i % 16 * 4096+at_ s (i+1) % 64 * 64+at_ s (i+2) % 64≤1114111)):=by omega
     simp only [h1,h2,e1,e3,e5,h3,c1,c2,hb2,and_true,true_and,if_true,if_false,false_and,and_false,and_self,ge_iff_le,this]
    ·have:(2048≤at_ s i % 16 * 4096+at_ s (i+1) % 64 * 64+at_ s (i+2) % 64∧(at_ s i % 16 * 4096+at_ s (i+1) % 64 * 64+at_ s (i+2) % 64<55296∨57344≤at_ s i % 16 * 4096+at_ s (i+1) % 64 * 64+at_ s (i+2) % 64∧at_ s i % 16 * 4096+at_ s (i+1) % 64 * 64+at_ s (i+2) % 64≤1114111)):=by omega
     simp only [h1,h2,e1,e3,e5,h3,c1,c2,hb2,and_true,true_and,if_true,if_false,false_and,and_false,and_self,ge_iff_le,this];simp
   ·simp [h1,h2,e1,e3,e4,e5,e6,h3,c2]
  ·simp [h1,h2,e1,e3,e4,e5,e6,h3,c1]
 ·have e3:¬ at_ s i / 16=14:=by omega
  have e5:240≤at_ s i:=by omega
  by_cases h4:at_ s i<248
  ·have e4:at_ s i / 8=30:=by omega
   by_cases c1:i+1<s.length∧at_ s (i+1) / 64=2
   ·by_cases c2:i+2<s.length∧at_ s (i+2) / 64=2
    ·by_cases c3:i+3<s.length∧at_ s (i+3) / 64=2
     ·by_cases h5:at_ s i<245
      ·by_cases hb2:(at_ s i=240∧at_ s (i+1)<144)∨(at_ s i=244∧144≤at_ s (i+1))
       ·have:¬ (65536≤at_ s i % 8 * 262144+at_ s (i+1) % 64 * 4096+at_ s (i+2) % 64 * 64+at_ s (i+3) % 64∧(at_ s i % 8 * 262144+at_ s (i+1) % 64 * 4096+at_ s (i+2) % 64 * 64+at_ s (i+3) % 64<55296∨57344≤at_ s i % 8 * 262144+at_ s (i+1) % 64 * 4096+at_ s (i+2) % 64 * 64+at_ s (i+3) % 64∧at_ s i % 8 * 262144+at_ s (i+1) % 64 * 4096+at_ s (i+2) % 64 * 64+at_ s (i+3) % 64≤1114111)):=by omega
        simp only [h1,h2,h3,e1,e3,e4,e5,h5,c1,c2,c3,hb2,and_true,true_and,if_true,if_false,false_and,and_false,and_self,ge_iff_le,this]
       ·have:(65536≤at_ s i % 8 * 262144+at_ s (i+1) % 64 * 4096+at_ s (i+2) % 64 * 64+at_ s (i+3) % 64∧(at_ s i % 8 * 262144+at_ s (i+1) % 64 * 4096+at_ s (i+2) % 64 * 64+at_ s (i+3) % 64<55296∨57344≤at_ s i % 8 * 262144+at_ s (i+1) % 64 * 4096+at_ s (i+2) % 64 * 64+at_ s (i+3) % 64∧at_ s i % 8 * 262144+at_ s (i+1) % 64 * 4096+at_ s (i+2) % 64 * 64+at_ s (i+3) % 64≤1114111)):=by omega
        simp only [h1,h2,h3,e1,e3,e4,e5,h5,c1,c2,c3,hb2,and_true,true_and,if_true,if_false,false_and,and_false,and_self,ge_iff_le,this];simp
      ·have:¬ (65536≤at_ s i % 8 * 262144+at_ s (i+1) % 64 * 4096+at_ s (i+2) % 64 * 64+at_ s (i+3) % 64∧(at_ s i % 8 * 262144+at_ s (i+1) % 64 * 4096+at_ s (i+2) % 64 * 64+at_ s (i+3) % 64<55296∨57344≤at_ s i % 8 * 262144+at_ s (i+1) % 64 * 4096+at_ s (i+2) % 64 * 64+at_ s (i+3) % 64∧at_ s i % 8 * 262144+at_ s (i+1) % 64 * 4096+at_ s (i+2) % 64 * 64+at_ s (i+3) % 64≤1114111)):=by omega
       simp only [h1,h2,h3,e1,e3,e4,e5,h5,c1,c2,c3,and_true,true_and,if_true,if_false,false_and,and_false,and_self,ge_iff_le,this]
     ·simp [h1,h2,h3,e1,e3,e4,e5,c3]
    ·simp [h1,h2,h3,e1,e3,e4,e5,c2]
   ·simp [h1,h2,h3,e1,e3,e4,e5,c1]
  ·have e4:¬ at_ s i / 8=30:=by omega
   have h5:¬ at_ s i<245:=by omega
   simp [h1,h2,h3,e1,e3,e4,e5,h5]
theorem Ko (s:List UInt8) (i k:Nat):at_ (s.drop i) k=at_ s (i+k):=by
 simp [at_,List.getD_eq_getElem?_getD]
theorem Jx {a b:List UInt8} {k:Nat} (h:k<a.length):at_ (a ++ b) k=at_ a k:=by
 simp [at_,List.getD_eq_getElem?_getD,List.getElem?_append_left h]
theorem Ib {a b:List UInt8} {k:Nat} (h:a.length≤k):at_ (a ++ b) k=at_ b (k - a.length):=by
 simp [at_,List.getD_eq_getElem?_getD,List.getElem?_append_right h]
theorem Gu (c:UInt8) (s:List UInt8):at_ (c :: s) 0=c.toNat:=rfl
theorem Jk0 (c:UInt8) (s:List UInt8) (k:Nat):at_ (c :: s) (k+1)=at_ s k:=rfl
theorem Jov (s:List UInt8) (i k:Nat):ct (s.drop i) k=ct s (i+k):=by
 have:decide (k<(s.drop i).length)=decide (i+k<s.length):=by rw [List.length_drop];congr 1;apply propext;omega
 simp only [ct,Ko,this]
theorem Ny (s:List UInt8) (i k:Nat):rlen (s.drop i) k=rlen s (i+k):=by
 simp only [rlen,Ko,Jov,← Nat.add_assoc]
theorem Jhn (s:List UInt8) (i k:Nat):code (s.drop i) k=code s (i+k):=by
 simp only [code,Ko,← Nat.add_assoc]
theorem M4 (s:List UInt8) (i:Nat) (h:i<s.length):i+rlen s i≤s.length:=by
 unfold rlen;simp only [J3]
 repeat' split
 all_goals omega
theorem Qv (s:List UInt8) (i:Nat):rlen s i≤4:=by
 unfold rlen
 repeat' split
 all_goals omega
theorem Pz (s:List UInt8) (k:Nat):u8of (at_ s k)=s.getD k 0:=by
 apply UInt8.toNat_inj.1;have:=Fr s k;have h:=B8 (c:=(at_ s k:Int)) omg omg;simp only [at_] at h ⊢;omega
theorem Je8 {s:List UInt8} {i:Nat} (n:Nat) (h:i+n≤s.length):(s.drop i).take n=(List.range n).map fun k=>s.getD (i+k) 0:=by
 apply List.ext_getElem?;intro j;rw [List.getElem?_take,List.getElem?_map];by_cases hj:j<n
 ·have hl:i+j<s.length:=by omega
  simp [hj,hl]
 ·simp [hj]
theorem Fd (s:List UInt8) (i:Nat):rlen s i=0∨(rlen s i=1∧at_ s i<128) ∨
  (rlen s i=2∧194≤at_ s i∧at_ s i<224∧at_ s (i+1) / 64=2) ∨
  (rlen s i=3∧224≤at_ s i∧at_ s i<240∧at_ s (i+1) / 64=2∧at_ s (i+2) / 64=2∧¬ (at_ s i=224∧at_ s (i+1)<160)∧¬ (at_ s i=237∧160≤at_ s (i+1))) ∨
  (rlen s i=4∧240≤at_ s i∧at_ s i<245∧at_ s (i+1) / 64=2∧at_ s (i+2) / 64=2∧at_ s (i+3) / 64=2∧¬ (at_ s i=240∧at_ s (i+1)<144)∧¬ (at_ s i=244∧144≤at_ s (i+1))):=by
 unfold rlen;simp only [J3]
 repeat' split
 all_goals omega
theorem H5 {s:List UInt8} {i:Nat} (h:rlen s i≠0) (hi:i<s.length):utf (code s i)=(s.drop i).take (rlen s i):=by
 have hle:=M4 s i hi;have h0:=Fr s i;have h1:=Fr s (i+1);have h2:=Fr s (i+2);have h3:=Fr s (i+3);rw [Je8 _ hle];rcases Fd s i with e | ⟨e,g1⟩ | ⟨e,g1,g2,g3⟩ | ⟨e,g1,g2,g3,g4,g5,g6⟩ | ⟨e,g1,g2,g3,g4,g5,g6,g7⟩
 ·exact absurd e h
 ·have ec:code s i=at_ s i:=by unfold code;rw [if_pos g1]
  rw [e,ec,utf,Nb omg];simp [List.range_succ,Pz]
 ·have ec:code s i=at_ s i % 32 * 64+at_ s (i+1) % 64:=by unfold code;rw [if_neg omg,if_pos omg]
  have l:utfC (code s i)=[(at_ s i:Int),(at_ s (i+1):Int)]:=by
   rw [Oc (by rw [ec];omega),ec];congr 1
   ·omega
   ·congr 1;omega
  rw [e,utf,l];simp [List.range_succ,Pz]
 ·have ec:code s i=at_ s i % 16 * 4096+at_ s (i+1) % 64 * 64+at_ s (i+2) % 64:=by unfold code;rw [if_neg omg,if_neg omg,if_pos omg]
  have l:utfC (code s i)=[(at_ s i:Int),(at_ s (i+1):Int),(at_ s (i+2):Int)]:=by
   rw [Nd (by rw [ec];omega),ec];congr 1
   ·omega
   ·congr 1
    ·omega
    ·congr 1;omega
  rw [e,utf,l];simp [List.range_succ,Pz]
 ·have ec:code s i=at_ s i % 8 * 262144+at_ s (i+1) % 64 * 4096+at_ s (i+2) % 64 * 64+at_ s (i+3) % 64:=by unfold code;rw [if_neg omg,if_neg omg,if_neg omg]
  have l:utfC (code s i)=[(at_ s i:Int),(at_ s (i+1):Int),(at_ s (i+2):Int),(at_ s (i+3):Int)]:=by
   rw [Nk (by rw [ec];omega),ec];congr 1
   ·omega
   ·congr 1
    ·omega
    ·congr 1
     ·omega
     ·congr 1;omega
  rw [e,utf,l];simp [List.range_succ,Pz]
def Cy (r:Int):Prop:=(0≤r∧r<55296)∨(57344≤r∧r≤1114111)
theorem Fm {s:List UInt8} {i:Nat} (h:rlen s i≠0):Cy (code s i):=by
 have h0:=Fr s i;unfold Cy;rcases Fd s i with e | ⟨e,g1⟩ | ⟨e,g1,g2,g3⟩ | ⟨e,g1,g2,g3,g4,g5,g6⟩ | ⟨e,g1,g2,g3,g4,g5,g6,g7⟩
 ·exact absurd e h
 ·have ec:code s i=at_ s i:=by unfold code;rw [if_pos g1]
  omega
 ·have ec:code s i=at_ s i % 32 * 64+at_ s (i+1) % 64:=by unfold code;rw [if_neg omg,if_pos omg]
  omega
 ·have ec:code s i=at_ s i % 16 * 4096+at_ s (i+1) % 64 * 64+at_ s (i+2) % 64:=by unfold code;rw [if_neg omg,if_neg omg,if_pos omg]
  omega
 ·have ec:code s i=at_ s i % 8 * 262144+at_ s (i+1) % 64 * 4096+at_ s (i+2) % 64 * 64+at_ s (i+3) % 64:=by unfold code;rw [if_neg omg,if_neg omg,if_neg omg]
  omega
theorem Rp {r:Int} (h:Cy r) (t:List UInt8):rlen (utf r ++ t) 0=(utf r).length∧(code (utf r ++ t) 0:Int)=r:=by
 unfold Cy at h;by_cases c1:r<128
 ·have e:=Nb (r:=r) omg;have a0:=B8 (c:=r) omg omg;simp only [utf,e,List.map_cons,List.map_nil,List.cons_append,List.nil_append,List.length_cons,List.length_nil];have e0:at_ (u8of r :: t) 0=(u8of r).toNat:=rfl;unfold rlen code;rw [if_pos (by rw [e0];omega),if_pos (by rw [e0];omega),e0];exact ⟨rfl,a0⟩
 by_cases c2:r<2048
 ·have e:=Oc (r:=r) omg;have a0:=B8 (c:=192+r / 64) omg omg;have a1:=B8 (c:=128+r % 64) omg omg;simp only [utf,e,List.map_cons,List.map_nil,List.cons_append,List.nil_append,List.length_cons,List.length_nil];generalize hs:u8of (192+r / 64) :: u8of (128+r % 64) :: t=s;have e0:at_ s 0=(u8of (192+r / 64)).toNat:=by rw [← hs];rfl
  have e1:at_ s 1=(u8of (128+r % 64)).toNat:=by rw [← hs];rfl
  have hl:1<s.length:=by rw [← hs];simp
  unfold rlen code;simp only [J3,Nat.zero_add];rw [if_neg omg,if_pos omg,if_neg omg,if_pos omg];exact ⟨rfl,by omega⟩
 by_cases c3:r<65536
 ·have e:=Nd (r:=r) omg;have a0:=B8 (c:=224+r / 4096) omg omg;have a1:=B8 (c:=128+r / 64 % 64) omg omg;have a2:=B8 (c:=128+r % 64) omg omg;simp only [utf,e,List.map_cons,List.map_nil,List.cons_append,List.nil_append,List.length_cons,List.length_nil];generalize hs:u8of (224+r / 4096) :: u8of (128+r / 64 % 64) :: u8of (128+r % 64) :: t=s;have e0:at_ s 0=(u8of (224+r / 4096)).toNat:=by rw [← hs];rfl
  have e1:at_ s 1=(u8of (128+r / 64 % 64)).toNat:=by rw [← hs];rfl
  have e2:at_ s 2=(u8of (128+r % 64)).toNat:=by rw [← hs];rfl
  have hl:2<s.length:=by rw [← hs];simp
  unfold rlen code;simp only [J3,Nat.zero_add];rw [if_neg omg,if_neg omg,if_pos omg,if_neg omg,if_neg omg,if_neg omg,if_pos omg];exact ⟨rfl,by omega⟩
 ·have e:=Nk (r:=r) omg;have a0:=B8 (c:=240+r / 262144) omg omg;have a1:=B8 (c:=128+r / 4096 % 64) omg omg;have a2:=B8 (c:=128+r / 64 % 64) omg omg;have a3:=B8 (c:=128+r % 64) omg omg;simp only [utf,e,List.map_cons,List.map_nil,List.cons_append,List.nil_append,List.length_cons,List.length_nil];generalize hs:u8of (240+r / 262144) :: u8of (128+r / 4096 % 64) :: u8of (128+r / 64 % 64) :: u8of (128+r % 64) :: t=s;have e0:at_ s 0=(u8of (240+r / 262144)).toNat:=by rw [← hs];rfl
  have e1:at_ s 1=(u8of (128+r / 4096 % 64)).toNat:=by rw [← hs];rfl
  have e2:at_ s 2=(u8of (128+r / 64 % 64)).toNat:=by rw [← hs];rfl
  have e3:at_ s 3=(u8of (128+r % 64)).toNat:=by rw [← hs];rfl
  have hl:3<s.length:=by rw [← hs];simp
  unfold rlen code;simp only [J3,Nat.zero_add];rw [if_neg omg,if_neg omg,if_neg omg,if_pos omg,if_neg omg,if_neg omg,if_neg omg,if_neg omg];exact ⟨rfl,by omega⟩
end Go.LX
namespace Go.LX
open Go Go.RowKit Go.Proofs
attribute [local irreducible] Al SWP Bi
def Eg:List UInt8:=[43,45,95]
def irv (r:Int):Int:=if r<128 then Lib.indexByte Eg r.toNat.toUInt8 else -1
def iaF (s:List UInt8):Nat→Nat→Int
 | 0,_=>-1
 | f+1,i=>if i<s.length then (if 0≤irv (dec s i).1 then (i:Int) else iaF s f (i+(dec s i).2)) else -1
theorem H6 (s:List UInt8) (i:Nat):Utf8.decode ⟨⟨s⟩⟩ i=dec s i:=rfl
end Go.LX
namespace Go.LX
open Go
def H9 (K:PV→Prop):Prop:=∀ a b,K a→K b→∃ t,Lc a b=some t∧(t=true ↔ a=b)
def Z5 (q:IntKind) (k:PV):Prop:=∃ n,k=.int q n
def isStrKey (k:PV):Prop:=∃ s,k=.str s
theorem P1 (q:IntKind):H9 (Z5 q):=by
 rintro a b ⟨x,rfl⟩ ⟨y,rfl⟩;exact ⟨x == y,by simp [Lc],by simp⟩
theorem J6k:H9 isStrKey:=by
 rintro a b ⟨x,rfl⟩ ⟨y,rfl⟩;exact ⟨x == y,by simp [Lc],by simp⟩
structure MapF (K:PV→Prop) (es:List (PV×PV)):Prop where
 keys:∀ p∈es,K p.1
 nodup:(es.map (·.1)).Nodup
theorem MapF.nil {K:PV→Prop}:MapF K []:=⟨fun p h=>by simp at h,by simp⟩
variable {K:PV→Prop} {es:List (PV×PV)}
theorem MapF.tail {p:PV×PV} (h:MapF K (p :: es)):MapF K es:=⟨fun q hq=>h.keys q (List.mem_cons_of_mem _ hq),(List.nodup_cons.1 h.nodup).2⟩
theorem MapF.one (h:MapF K es) {k v w:PV} (h1:(k,v)∈es) (h2:(k,w)∈es):v=w:=by
 induction es with
 | nil=>simp at h1
 | cons p es ih =>
  have hn:=List.nodup_cons.1 h.nodup;have key:∀ {u:PV},(k,u)∈es→p.1≠k:=fun {u} hu e=>hn.1 (by show p.1∈_;rw [e];exact List.mem_map_of_mem (f:=(·.1)) hu)
  rcases List.mem_cons.1 h1 with h1 | h1
  ·rcases List.mem_cons.1 h2 with h2 | h2
   ·rw [← h1] at h2;exact (Prod.mk.inj h2).2.symm
   ·exact absurd (by rw [← h1]) (key h2)
  ·rcases List.mem_cons.1 h2 with h2 | h2
   ·exact absurd (by rw [← h2]) (key h1)
   ·exact ih h.tail h1 h2
theorem Gk (hK:H9 K) {k:PV} (hk:K k):∀ (es:List (PV×PV)) (i:Nat),MapF K es →
  (Cl k es i=some none∧∀ v,(k,v) ∉ es)∨∃ j v,Cl k es i=some (some (i+j,v))∧es[j]? = some (k,v)
 | [],i,_=>.inl ⟨rfl,fun v h=>by simp at h⟩
 | (x,u) :: es,i,h=>by
  obtain ⟨t,h1,h2⟩:=hK k x hk (h.keys (x,u) List.mem_cons_self);cases t with
  | true =>
   have e:k=x:=h2.1 rfl;subst e;exact .inr ⟨0,u,by simp [Cl,h1],rfl⟩
  | false =>
   have hne:k≠x:=fun e=>by have:=h2.2 e;cases this
   rcases Gk hK hk es (i+1) h.tail with ⟨g1,g2⟩ | ⟨j,v,g1,g2⟩
   ·refine .inl ⟨by simp [Cl,h1,g1],fun v hv=>?_⟩;rcases List.mem_cons.1 hv with hv | hv
    ·exact hne (Prod.mk.inj hv).1
    ·exact g2 v hv
   ·exact .inr ⟨j+1,v,by simp [Cl,h1,g1];omega,by simpa using g2⟩
theorem Jkm (hK:H9 K) {k v:PV} (h:MapF K es) (hv:(k,v)∈es):∃ j,Cl k es 0=some (some (j,v)):=by
 have hk:=h.keys _ hv;rcases Gk hK hk es 0 h with ⟨_,g⟩ | ⟨j,u,g1,g2⟩
 ·exact absurd hv (g v)
 ·have:=h.one hv (List.mem_of_getElem? g2);subst this;exact ⟨0+j,g1⟩
theorem Jep (hK:H9 K) {k:PV} (hk:K k) (h:MapF K es) (hv:∀ v,(k,v) ∉ es):Cl k es 0=some none:=by
 rcases Gk hK hk es 0 h with ⟨g,_⟩ | ⟨j,u,g1,g2⟩
 ·exact g
 ·exact absurd (List.mem_of_getElem? g2) (hv u)
theorem Jmm (h:MapF K es) {i j:Nat} {p q:PV×PV} (hi:es[i]? = some p) (hj:es[j]? = some q) (e:p.1=q.1):i=j:=by
 have h1:(es.map (·.1))[i]? = some p.1:=by simp [hi]
 have h2:(es.map (·.1))[j]? = some p.1:=by simp [hj,e]
 have hil:=(List.getElem?_eq_some_iff.1 h1).1;exact (List.getElem?_inj hil h.nodup).1 (h1.trans h2.symm)
theorem Jhy (hK:H9 K) {k v:PV} (hk:K k) (h:MapF K es) :
  ∃ es',mput k v es=some es'∧MapF K es'∧(∀ k' v',(k',v')∈es' ↔ (k'=k∧v'=v)∨(k'≠k∧(k',v')∈es)):=by
 rcases Gk hK hk es 0 h with ⟨g1,g2⟩ | ⟨j,u,g1,g2⟩
 ·refine ⟨es ++ [(k,v)],by simp [mput,g1],⟨fun p hp=>?_,?_⟩,fun k' v'=>?_⟩
  ·rcases List.mem_append.1 hp with hp | hp
   ·exact h.keys p hp
   ·simp at hp;subst hp;exact hk
  ·rw [List.map_append,List.nodup_append];refine ⟨h.nodup,by simp,fun a ha b hb=>?_⟩;simp at hb;subst hb;rintro rfl;obtain ⟨q,hq,rfl⟩:=List.mem_map.1 ha;exact g2 q.2 hq
  ·simp only [List.mem_append,List.mem_singleton,Prod.mk.injEq];constructor
   ·rintro (hm | hm)
    ·exact .inr ⟨fun e=>g2 v' (e ▸ hm),hm⟩
    ·exact .inl hm
   ·rintro (hm | hm)
    ·exact .inr hm
    ·exact .inl hm.2
 ·have hj:=(List.getElem?_eq_some_iff.1 g2).1;refine ⟨es.set j (k,v),by simp [mput,g1],⟨fun p hp=>?_,?_⟩,fun k' v'=>?_⟩
  ·rcases List.mem_or_eq_of_mem_set hp with hp | rfl
   ·exact h.keys p hp
   ·exact hk
  ·have e:(es.set j (k,v)).map (·.1)=es.map (·.1):=by
    rw [List.map_set];apply List.ext_getElem?;intro i;rw [List.getElem?_set];split
    ·rename_i hij;subst hij;have:=(List.getElem?_eq_some_iff.1 g2).2;simp [hj,this]
    ·rfl
   rw [e];exact h.nodup
  ·constructor
   ·intro hm;obtain ⟨i,hi⟩:=List.getElem?_of_mem hm;rw [List.getElem?_set] at hi;split at hi
    ·first
      | (have e:=Option.some.inj hi;exact .inl ⟨(Prod.mk.inj e).1.symm,(Prod.mk.inj e).2.symm⟩)
      | (
       split at hi
       ·have e:=Option.some.inj hi;exact .inl ⟨(Prod.mk.inj e).1.symm,(Prod.mk.inj e).2.symm⟩
       ·cases hi)
    ·rename_i hij;refine .inr ⟨fun e=>hij ?_,List.mem_of_getElem? hi⟩;exact Jmm h g2 hi (by simp [e])
   ·rintro (⟨rfl,rfl⟩ | ⟨hne,hm⟩)
    ·exact List.mem_of_getElem? (i:=j) (by simp [hj])
    ·obtain ⟨i,hi⟩:=List.getElem?_of_mem hm;refine List.mem_of_getElem? (i:=i) ?_;rw [List.getElem?_set,if_neg (fun e=>?_)]
     ·exact hi
     ·subst e;rw [g2] at hi;exact hne (Prod.mk.inj (Option.some.inj hi)).1.symm
theorem Jer (hK:H9 K) {k:PV} (hk:K k) (h:MapF K es) :
  ∃ es',mdel k es=some es'∧MapF K es'∧(∀ k' v',(k',v')∈es' ↔ k'≠k∧(k',v')∈es):=by
 rcases Gk hK hk es 0 h with ⟨g1,g2⟩ | ⟨j,u,g1,g2⟩
 ·refine ⟨es,by simp [mdel,g1],h,fun k' v'=>⟨fun hm=>⟨fun e=>g2 v' (e ▸ hm),hm⟩,fun hm=>hm.2⟩⟩
 ·have hs:(es.eraseIdx j).Sublist es:=List.eraseIdx_sublist ..
  refine ⟨es.eraseIdx j,by simp [mdel,g1],⟨fun p hp=>h.keys p (hs.subset hp),?_⟩,fun k' v'=>⟨fun hm=>⟨fun e=>?_,hs.subset hm⟩,fun hm=>?_⟩⟩
  ·exact (hs.map _).nodup h.nodup
  ·obtain ⟨i,hij,hi⟩:=List.mem_eraseIdx_iff_getElem?.1 hm;exact hij (Jmm h hi g2 (by simp [e]))
  ·obtain ⟨i,hi⟩:=List.getElem?_of_mem hm.2;refine List.mem_eraseIdx_iff_getElem?.2 ⟨i,fun e=>?_,hi⟩;subst e;rw [g2] at hi;exact hm.1 (Prod.mk.inj (Option.some.inj hi)).1.symm
def Jo (seen:List Nat):Nat→Nat
 | 0=>0
 | n+1=>Jo seen n+(if n∈seen then 0 else 1)
theorem Ti (seen:List Nat) (i:Nat):∀ n,Jo (seen ++ [i]) n≤Jo seen n
 | 0=>Nat.le_refl _
 | n+1=>by
  have:=Ti seen i n;simp only [Jo,List.mem_append,List.mem_singleton];by_cases h1:n∈seen
  ·rw [if_pos (.inl h1),if_pos h1];omega
  ·rw [if_neg h1];split <;> omega
theorem S9 {seen:List Nat} {i:Nat} (hi:i ∉ seen):∀ {n},i<n→Jo (seen ++ [i]) n<Jo seen n
 | 0,h=>by omega
 | n+1,h=>by
  simp only [Jo,List.mem_append,List.mem_singleton];by_cases h2:n=i
  ·subst h2;have:=Ti seen n n;rw [if_pos (.inr rfl),if_neg hi];omega
  ·have:=S9 hi (n:=n) omg;by_cases h1:n∈seen
   ·rw [if_pos (.inl h1),if_pos h1];omega
   ·rw [if_neg (fun h=>h.elim h1 h2),if_neg h1];omega
end Go.LX
namespace Go.LX
open Go Go.RowKit Go.Proofs
attribute [local irreducible] Al SWP Bi
def Ei:List (PV×PV):=[(.int .u8 34,.int .i32 34),(.int .u8 92,.int .i32 92),(.int .u8 47,.int .i32 47),(.int .u8 98,.int .i32 8),(.int .u8 102,.int .i32 12),(.int .u8 110,.int .i32 10),(.int .u8 114,.int .i32 13),(.int .u8 116,.int .i32 9)]
theorem mp0:mput (.int .u8 34) (.int .i32 34) []=some [(.int .u8 34,.int .i32 34)]:=rfl
theorem mp1:mput (.int .u8 92) (.int .i32 92) [(.int .u8 34,.int .i32 34)]=some [(.int .u8 34,.int .i32 34),(.int .u8 92,.int .i32 92)]:=rfl
theorem mp2:mput (.int .u8 47) (.int .i32 47) [(.int .u8 34,.int .i32 34),(.int .u8 92,.int .i32 92)]=some [(.int .u8 34,.int .i32 34),(.int .u8 92,.int .i32 92),(.int .u8 47,.int .i32 47)]:=rfl
theorem mp3:mput (.int .u8 98) (.int .i32 8) [(.int .u8 34,.int .i32 34),(.int .u8 92,.int .i32 92),(.int .u8 47,.int .i32 47)]=some [(.int .u8 34,.int .i32 34),(.int .u8 92,.int .i32 92),(.int .u8 47,.int .i32 47),(.int .u8 98,.int .i32 8)]:=rfl
theorem mp4:mput (.int .u8 102) (.int .i32 12) [(.int .u8 34,.int .i32 34),(.int .u8 92,.int .i32 92),(.int .u8 47,.int .i32 47),(.int .u8 98,.int .i32 8)]=some [(.int .u8 34,.int .i32 34),(.int .u8 92,.int .i32 92),(.int .u8 47,.int .i32 47),(.int .u8 98,.int .i32 8),(.int .u8 102,.int .i32 12)]:=rfl
theorem mp5:mput (.int .u8 110) (.int .i32 10) [(.int .u8 34,.int .i32 34),(.int .u8 92,.int .i32 92),(.int .u8 47,.int .i32 47),(.int .u8 98,.int .i32 8),(.int .u8 102,.int .i32 12)]=some [(.int .u8 34,.int .i32 34),(.int .u8 92,.int .i32 92),(.int .u8 47,.int .i32 47),(.int .u8 98,.int .i32 8),(.int .u8 102,.int .i32 12),(.int .u8 110,.int .i32 10)]:=rfl
theorem mp6:mput (.int .u8 114) (.int .i32 13) [(.int .u8 34,.int .i32 34),(.int .u8 92,.int .i32 92),(.int .u8 47,.int .i32 47),(.int .u8 98,.int .i32 8),(.int .u8 102,.int .i32 12),(.int .u8 110,.int .i32 10)]=some [(.int .u8 34,.int .i32 34),(.int .u8 92,.int .i32 92),(.int .u8 47,.int .i32 47),(.int .u8 98,.int .i32 8),(.int .u8 102,.int .i32 12),(.int .u8 110,.int .i32 10),(.int .u8 114,.int .i32 13)]:=rfl
theorem mp7:mput (.int .u8 116) (.int .i32 9) [(.int .u8 34,.int .i32 34),(.int .u8 92,.int .i32 92),(.int .u8 47,.int .i32 47),(.int .u8 98,.int .i32 8),(.int .u8 102,.int .i32 12),(.int .u8 110,.int .i32 10),(.int .u8 114,.int .i32 13)]=some [(.int .u8 34,.int .i32 34),(.int .u8 92,.int .i32 92),(.int .u8 47,.int .i32 47),(.int .u8 98,.int .i32 8),(.int .u8 102,.int .i32 12),(.int .u8 110,.int .i32 10),(.int .u8 114,.int .i32 13),(.int .u8 116,.int .i32 9)]:=rfl
theorem Kl:Det cx 63 [] [] (.p (.mp Ei)) []:=by
 (refine bgo Tryd.func63 ?_;simp only [go_sem,simprocAttr,mp0,mp1,mp2,mp3,mp4,mp5,mp6,mp7]);rfl
theorem wi1 {i:Nat} (h:i≤3000000000000000):IntKind.i64.wrap ((i:Int)+1)=((i+1:Nat):Int):=by rw [Aa omg omg];omega
theorem wi2 {i:Nat} (h:i≤3000000000000000):IntKind.i64.wrap ((i:Int)+2)=((i+2:Nat):Int):=by rw [Aa omg omg];omega
theorem wi3 {i:Nat} (h:i≤3000000000000000):IntKind.i64.wrap ((i:Int)+3)=((i+3:Nat):Int):=by rw [Aa omg omg];omega
theorem wia {i j:Nat} (h:i≤3000000000000000) (h2:j≤3000000000000000):IntKind.i64.wrap ((i:Int)+(j:Int))=((i+j:Nat):Int):=by rw [Aa omg omg];omega
theorem Jl7 (s:List UInt8) (i:Nat) (hs:s.length≤1000000) (hi:i≤2000000):Det cx 66 [.p (.str s),.p (.int .i64 i)] [] (.p (.bool (ct s i))) []:=by
 (refine bgo Tryd.func66 ?_;simp only [go_sem,simprocAttr]);(repeat' (first | (apply iteI <;> intro h)|(refine Jqs ?_) | fail))
 all_goals (rw [Bool.eq_iff_iff];simp [ct];omega)
theorem ct_lt {s:List UInt8} {k:Nat} (h:ct s k=true):k<s.length:=(J3.1 h).1
theorem Jkd (s:List UInt8) (i:Nat) (hs:s.length≤1000000) (hi:i<s.length):Det cx 57 [.p (.str s),.p (.int .i64 i)] [] (.p (.int .i64 (rlen s i))) []:=by
 have w1:=wi1 (i:=i) omg;have w2:=wi2 (i:=i) omg;have w3:=wi3 (i:=i) omg;have hA:=Fr s i;have hB:=Fr s (i+1);(refine bgo Tryd.func57 ?_;simp only [go_sem,simprocAttr,w1]);(repeat' (first | (apply iteI <;> intro h)|(refine Jqs ?_)|((refine Jqa (Jl7 s _ hs omg) ?_);simp only [go_sem,simprocAttr,w1,w2,w3])|(refine And.intro (ct_lt (by assumption)) ?_)|(exfalso;omega)))
 all_goals (clear w1 w2 w3;unfold rlen;simp only [J3] at *;(repeat' split) <;> omega)
def vF (s:List UInt8):Nat→Nat→Bool
 | 0,_=>true
 | f+1,i=>if i<s.length then (if rlen s i=0 then false else vF s f (i+rlen s i)) else true
def valid (s:List UInt8):Bool:=vF s (s.length+1) 0
theorem Cn (s:List UInt8) (hs:s.length≤1000000):Det cx 48 [.p (.str s)] [] (.p (.bool (valid s))) []:=by
 (refine bgo Tryd.func48 ?_;simp only [go_sem,simprocAttr]);refine SWP.loop (fun x:Nat×Nat=>⟨Ba 17 [(0,.p (.str s)),(3,.p (.int .i64 x.1))],[]⟩) (fun x=>x.1≤s.length∧s.length+1≤x.1+x.2∧vF s x.2 x.1=valid s) (fun x=>s.length - x.1) (0,s.length+1) Jqd ⟨by simp,by simp,rfl⟩ ?_;rintro ⟨i,f⟩ ⟨h1,h2,h3⟩;simp only at h1 h2 h3;obtain ⟨g,rfl⟩:∃ g,f=g+1:=⟨f - 1,by omega⟩
 have h4:=Qv s i;have hw:=wia (i:=i) (j:=rlen s i) omg omg;(refine lws ?_;simp only [go_sem,simprocAttr]);(repeat' (first | (apply iteI <;> intro h)|((refine Jqa (Jkd s i hs omg) ?_);simp only [go_sem,simprocAttr,hw]) | fail))
 ·rw [← h3,vF,if_pos omg,if_pos omg]
 ·have:=M4 s i omg;exact ⟨(i+rlen s i,g),⟨by simp only;omega,by simp only;omega,by simp only;rw [← h3,vF,if_pos omg,if_neg omg]⟩,by simp only;omega,Jqd⟩
 ·rw [← h3,vF,if_neg omg]
def wr (c:Nat):List UInt8 :=
 if c=34 then [92,34] else if c=92 then [92,92] else if c=8 then [92,98] else if c=12 then [92,102] else if c=10 then [92,110] else if c=13 then [92,114] else if c=9 then [92,116]
 else if c<32 then [92,117,48,48,hexd (c / 16),hexd (c % 16)] else [UInt8.ofNat c]
theorem wi0 {c:Nat} (h:c≤3000000000000000):IntKind.i64.wrap (c:Int)=(c:Int):=Aa omg omg
theorem N0 (n:Int) (h0:-9223372036854775808≤n) (h1:n≤9223372036854775807):Det cx 58 [.p (.int .i64 n)] [] (.p (.str (Lib.itoa n))) []:=by
 refine Jr5 (v:=.string ⟨⟨Lib.itoa n⟩⟩) (enters_of Tryd.func58 kr rfl) rfl (fun β w Im=>PRep.str _) fun β Im w vs hg hf=>?_
 obtain ⟨v,rfl,hv⟩:=fit1 hf;have:=Mz hv;subst this;refine (Tryd.strconv_Itoa n h0 h1 w (Jbj hg).pow).mono fun e w' ⟨h,k,os,hw⟩=>⟨h,?_⟩
 subst hw;exact ⟨rfl,rfl,rfl,by show w.heap.size≤(w.heap ++ os).size;rw [Array.size_append];omega,fun _ hj=>Sort.heap_grow_old (w.drewN k) os hj⟩
def letP (c:Nat):Prop:=(97≤c∧c≤122)∨(65≤c∧c≤90)∨c=95
instance (c:Nat):Decidable (letP c):=inferInstanceAs (Decidable (_∨_))
def figP (c:Nat):Prop:=48≤c∧c≤57
instance (c:Nat):Decidable (figP c):=inferInstanceAs (Decidable (_∧_))
def wF (s:List UInt8):Nat→Nat→Nat
 | 0,i=>i
 | f+1,i=>if i<s.length∧(letP (at_ s i)∨(0<i∧figP (at_ s i))) then wF s f (i+1) else i
def Dm (s:List UInt8):Nat:=wF s (s.length+1) 0
def isWd (s:List UInt8):Prop:=s≠[]∧Dm s=s.length
instance (s:List UInt8):Decidable (isWd s):=inferInstanceAs (Decidable (_∧_))
structure Step where
 part:Bool
 name:List UInt8
 n:Int
def Step.cells (x:Step):List PV:=[.bool x.part,.str x.name,.int .i64 x.n]
def Bb (p:List Step):List (List PV):=p.map Step.cells
def Bc (x:Step):Prop:=if x.part=true then x.name=[]∧0≤x.n∧x.n≤1000000 else x.n=0∧valid x.name=true
instance (x:Step):Decidable (Bc x):=by unfold Bc;exact inferInstance
def wrs (s:List UInt8):List UInt8:=s.flatMap fun c=>wr c.toNat
def refQ (s:List UInt8):List UInt8:=34 :: wrs s ++ [34]
theorem wr_le (c:Nat):(wr c).length≤6:=by
 unfold wr
 repeat' split
 all_goals simp
theorem Jlg (s:List UInt8):(wrs s).length≤6 * s.length:=by
 induction s with
 | nil=>simp [wrs]
 | cons c s ih =>
  have:=wr_le c.toNat;simp only [wrs,List.flatMap_cons,List.length_append,List.length_cons] at ih ⊢;omega
@[simp] theorem wrs_nil:wrs []=[]:=rfl
def u4 (s:List UInt8):Int:=if 6≤s.length∧at_ s 0=92∧at_ s 1=117 then (match hexN ((s.drop 2).take 4) 0 with | some n=>(n:Int) | none=>-1) else -1
def Hr (c:Nat):Option Nat :=
 if c=34 then some 34 else if c=92 then some 92 else if c=47 then some 47 else if c=98 then some 8 else if c=102 then some 12 else if c=110 then some 10 else if c=114 then some 13 else if c=116 then some 9 else none
def escR (s:List UInt8):Int×Nat :=
 if s.length<2 then (0,0) else match Hr (at_ s 1) with
  | some r=>(r,2)
  | none=>if u4 s<0∨(56320≤u4 s∧u4 s<57344) then (0,0) else if u4 s<55296∨57344≤u4 s then (u4 s,6)
   else if u4 (s.drop 6)<56320∨57344≤u4 (s.drop 6) then (0,0) else (65536+(u4 s - 55296) * 1024+(u4 (s.drop 6) - 56320),12)
def escS (s:List UInt8):List UInt8×Nat:=if (escR s).2=0 then ([],0) else (utf (escR s).1,(escR s).2)
theorem Ud {s:List UInt8} {r:Int} {n:Nat} (h:escR s=(r,n)) (hn:n≠0):escS s=(utf r,n):=by
 unfold escS;rw [h];simp [hn]
def tk (s:List UInt8) (i:Nat):List UInt8×Nat:=if at_ s i=92 then escS (s.drop i) else ((s.drop i).take (rlen s i),rlen s i)
def uqF (s:List UInt8):Nat→Nat→List UInt8→List UInt8×Nat×Nat
 | 0,_,_=>([],s.length,1)
 | f+1,i,out=>if i<s.length then (if at_ s i=34 then (out,i+1,0) else if (tk s i).2=0∨at_ s i<32 then ([],i,1) else uqF s f (i+(tk s i).2) (out ++ (tk s i).1)) else ([],s.length,1)
def uq (s:List UInt8):List UInt8×Nat×Nat:=if s.length=0∨at_ s 0≠34 then ([],0,1) else uqF s (s.length+1) 1 []
theorem Gq {s:List UInt8} {i:Nat} (h:rlen s i≠0):(code s i<128 ↔ at_ s i<128)∧(at_ s i<128→code s i=at_ s i):=by
 have h0:=Fr s i;rcases Fd s i with e | ⟨e,g1⟩ | ⟨e,g1,g2,g3⟩ | ⟨e,g1,g2,g3,g4,g5,g6⟩ | ⟨e,g1,g2,g3,g4,g5,g6,g7⟩
 ·exact absurd e h
 ·have ec:code s i=at_ s i:=by unfold code;rw [if_pos g1]
  omega
 ·have ec:code s i=at_ s i % 32 * 64+at_ s (i+1) % 64:=by unfold code;rw [if_neg omg,if_pos omg]
  omega
 ·have ec:code s i=at_ s i % 16 * 4096+at_ s (i+1) % 64 * 64+at_ s (i+2) % 64:=by unfold code;rw [if_neg omg,if_neg omg,if_pos omg]
  omega
 ·have ec:code s i=at_ s i % 8 * 262144+at_ s (i+1) % 64 * 4096+at_ s (i+2) % 64 * 64+at_ s (i+3) % 64:=by unfold code;rw [if_neg omg,if_neg omg,if_neg omg]
  omega
theorem Q4 {s:List UInt8} {i:Nat}:rlen s i=1 ↔ at_ s i<128:=by
 rcases Fd s i with e | ⟨e,g1⟩ | ⟨e,g1,g2,g3⟩ | ⟨e,g1,g2,g3,g4,g5,g6⟩ | ⟨e,g1,g2,g3,g4,g5,g6,g7⟩
 ·constructor
  ·omega
  ·intro h;unfold rlen at e;rw [if_pos h] at e;cases e
 all_goals omega
theorem I4 (r:Int):1≤(utf r).length:=by
 rw [D6];unfold utfC
 repeat' split
 all_goals simp
def letR (r:Int):Option Nat :=
 if r=34 then some 34 else if r=92 then some 92 else if r=8 then some 98 else if r=12 then some 102 else if r=10 then some 110 else if r=13 then some 114 else if r=9 then some 116 else none
def letN:Nat→Nat
 | 0=>34 | 1=>92 | 2=>47 | 3=>8 | 4=>12 | 5=>10 | 6=>13 | 7=>9 | _=>0
theorem M9 {i:Nat} {p:PV×PV} (h:Ei[i]? = some p):i<8∧∃ c r:Nat,p=(.int .u8 c,.int .i32 r):=by
 have hl:=(List.getElem?_eq_some_iff.1 h).1;have h8:i<8:=hl;refine ⟨h8,?_⟩;have key:∀ j:Fin 8,∃ c r:Nat,Ei[j.val]? = some (.int .u8 c,.int .i32 r):=by
  intro j
  match j with
  | ⟨0,_⟩=>exact ⟨34,34,rfl⟩
  | ⟨1,_⟩=>exact ⟨92,92,rfl⟩
  | ⟨2,_⟩=>exact ⟨47,47,rfl⟩
  | ⟨3,_⟩=>exact ⟨98,8,rfl⟩
  | ⟨4,_⟩=>exact ⟨102,12,rfl⟩
  | ⟨5,_⟩=>exact ⟨110,10,rfl⟩
  | ⟨6,_⟩=>exact ⟨114,13,rfl⟩
  | ⟨7,_⟩=>exact ⟨116,9,rfl⟩
 obtain ⟨c,r,hk⟩:=key ⟨i,h8⟩;rw [hk] at h;exact ⟨c,r,(Option.some.inj h).symm⟩
theorem Jge {i j:Nat} {v w k:PV} (hi:Ei[i]? = some (v,k)) (hj:Ei[j]? = some (w,k)):i=j:=by
 obtain ⟨h1,a,r,e1⟩:=M9 hi;obtain ⟨h2,b,q,e2⟩:=M9 hj;obtain ⟨rfl,rfl⟩:=Prod.mk.inj e1;obtain ⟨rfl,e3⟩:=Prod.mk.inj e2;have hrq:r=q:=by injection e3 with _ h;omega
 subst hrq;have key:∀ i j:Fin 8,∀ a b r:Nat,Ei[i.val]? = some (.int .u8 a,.int .i32 r)→Ei[j.val]? = some (.int .u8 b,.int .i32 r)→(letN i.val=r∧letN j.val=r):=by
  intro i j a b r hi hj;have f:∀ k:Fin 8,∀ c q:Nat,Ei[k.val]? = some (.int .u8 c,.int .i32 q)→letN k.val=q:=by
   intro k c q h
   match k,h with
   | ⟨0,_⟩,h=>cases h;rfl
   | ⟨1,_⟩,h=>cases h;rfl
   | ⟨2,_⟩,h=>cases h;rfl
   | ⟨3,_⟩,h=>cases h;rfl
   | ⟨4,_⟩,h=>cases h;rfl
   | ⟨5,_⟩,h=>cases h;rfl
   | ⟨6,_⟩,h=>cases h;rfl
   | ⟨7,_⟩,h=>cases h;rfl
  exact ⟨f i a r hi,f j b r hj⟩
 obtain ⟨k1,k2⟩:=key ⟨i,h1⟩ ⟨j,h2⟩ a b r hi hj;have inj:∀ i j:Fin 8,letN i.val=letN j.val→i=j:=by decide
 exact congrArg Fin.val (inj ⟨i,h1⟩ ⟨j,h2⟩ (k1.trans k2.symm))
theorem Jb8 {i:Nat} {v:PV} {r:Int} (h:Ei[i]? = some (v,.int .i32 r)):r=34∨r=92∨r=47∨r=8∨r=12∨r=10∨r=13∨r=9:=by
 obtain ⟨h8,_⟩:=M9 h;have f:∀ k:Fin 8,Ei[k.val]? = some (v,.int .i32 r)→r=34∨r=92∨r=47∨r=8∨r=12∨r=10∨r=13∨r=9:=by
  intro k h
  match k,h with
  | ⟨0,_⟩,h=>cases h;simp
  | ⟨1,_⟩,h=>cases h;simp
  | ⟨2,_⟩,h=>cases h;simp
  | ⟨3,_⟩,h=>cases h;simp
  | ⟨4,_⟩,h=>cases h;simp
  | ⟨5,_⟩,h=>cases h;simp
  | ⟨6,_⟩,h=>cases h;simp
  | ⟨7,_⟩,h=>cases h;simp
 exact f ⟨i,h8⟩ h
def LetMap (es:List (PV×PV)):Prop:=∀ r:Int,(letR r=none∧Cl (.int .i32 r) es 0=some none)∨∃ i c,letR r=some c∧c≤116∧Cl (.int .i32 r) es 0=some (some (i,.int .u8 c))
theorem Jfl:Al cx 52 [] [] (fun m q=>q=[]∧∃ es,m=.p (.mp es)∧LetMap es):=by
 (refine bgo Tryd.func52 ?_;simp only [go_sem,simprocAttr]);(repeat' (first | ((refine Jqa (Kl) ?_);simp only [go_sem,simprocAttr]) | fail));refine SWP.loop (fun x:List (PV×PV)×List Nat=>⟨Ba 17 [(1,.mref 4),(6,.ptr 6 0 0)],[(6,.obj (.mit Ei x.2)),(4,.obj (.mp x.1))]⟩) (fun x=>MapF (Z5 .i32) x.1∧∀ k v,(k,v)∈x.1 ↔ ∃ i∈x.2,Ei[i]? = some (v,k)) (fun x=>Jo x.2 8) ([],[]) Jqd ⟨MapF.nil,by simp⟩ ?_;rintro ⟨es,seen⟩ ⟨h1,h2⟩;simp only at h1 h2;(refine lws ?_;simp only [go_sem,simprocAttr]);refine ⟨fun j p hj hns=>?_,fun hall=>?_⟩
 ·obtain ⟨h8,c,r,rfl⟩:=M9 hj;refine ⟨_,hj,?_⟩;obtain ⟨es',e1,g1,g2⟩:=Jhy (v:=.int .u8 c) (P1 .i32) (k:=.int .i32 r) ⟨_,rfl⟩ h1;simp only [go_sem,simprocAttr,e1];refine ⟨(es',seen ++ [j]),⟨g1,fun k v=>?_⟩,S9 hns h8,Jqd⟩;rw [g2];constructor
  ·rintro (⟨rfl,rfl⟩ | ⟨_,hm⟩)
   ·exact ⟨j,by simp,hj⟩
   ·obtain ⟨i,hi,he⟩:=(h2 k v).1 hm;exact ⟨i,by simp [hi],he⟩
  ·rintro ⟨i,hi,he⟩;rw [List.mem_append,List.mem_singleton] at hi;rcases hi with hi | rfl
   ·refine .inr ⟨fun hk=>?_,(h2 k v).2 ⟨i,hi,he⟩⟩;subst hk;have:=Jge he hj;subst this;exact hns hi
   ·rw [hj] at he;have:=Prod.mk.inj (Option.some.inj he);exact .inl ⟨this.2.symm,this.1.symm⟩
 ·obtain ⟨es',e1,g1,g2⟩:=Jer (P1 .i32) (k:=.int .i32 47) ⟨_,rfl⟩ h1;simp only [go_sem,simprocAttr,e1,e1];refine ⟨es',rfl,fun r=>?_⟩;have inn:∀ (i:Nat) (c r:Int),Ei[i]? = some (.int .u8 c,.int .i32 r)→r≠47→∃ j,Cl (.int .i32 r) es' 0=some (some (j,.int .u8 c)):=fun i c r hi hr =>
   Jkm (P1 .i32) g1 ((g2 _ _).2 ⟨fun e=>hr (by injection e),(h2 _ _).2 ⟨i,hall i (List.getElem?_eq_some_iff.1 hi).1,hi⟩⟩)
  unfold letR;by_cases c1:r=34
  ·subst c1;obtain ⟨j,hj⟩:=inn 0 34 34 rfl de;exact .inr ⟨j,34,rfl,by decide,hj⟩
  by_cases c2:r=92
  ·subst c2;obtain ⟨j,hj⟩:=inn 1 92 92 rfl de;exact .inr ⟨j,92,rfl,by decide,hj⟩
  by_cases c3:r=8
  ·subst c3;obtain ⟨j,hj⟩:=inn 3 98 8 rfl de;exact .inr ⟨j,98,rfl,by decide,hj⟩
  by_cases c4:r=12
  ·subst c4;obtain ⟨j,hj⟩:=inn 4 102 12 rfl de;exact .inr ⟨j,102,rfl,by decide,hj⟩
  by_cases c5:r=10
  ·subst c5;obtain ⟨j,hj⟩:=inn 5 110 10 rfl de;exact .inr ⟨j,110,rfl,by decide,hj⟩
  by_cases c6:r=13
  ·subst c6;obtain ⟨j,hj⟩:=inn 6 114 13 rfl de;exact .inr ⟨j,114,rfl,by decide,hj⟩
  by_cases c7:r=9
  ·subst c7;obtain ⟨j,hj⟩:=inn 7 116 9 rfl de;exact .inr ⟨j,116,rfl,by decide,hj⟩
  refine .inl ⟨by simp [*],Jep (P1 .i32) ⟨_,rfl⟩ g1 fun v hv=>?_⟩;obtain ⟨hne,hm⟩:=(g2 _ _).1 hv;obtain ⟨i,_,hi⟩:=(h2 _ _).1 hm;have h47:r≠47:=fun e=>hne (by rw [e])
  have:=Jb8 hi;omega
end Go.LX
